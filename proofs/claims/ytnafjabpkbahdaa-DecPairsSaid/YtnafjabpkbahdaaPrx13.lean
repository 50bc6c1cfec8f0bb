-- printed by wip/gprint.py (ours) out of the translation, by the kit's print program with given contracts
import Derived.Test.YtnafjabpkbahdaaPrx0
import Derived.Test.YtnafjabpkbahdaaPrx1
import Derived.Test.YtnafjabpkbahdaaPrx2
import Derived.Test.YtnafjabpkbahdaaPrx4
import Derived.Test.YtnafjabpkbahdaaPrx5
import Derived.Test.YtnafjabpkbahdaaPrx10
import Derived.Test.YtnafjabpkbahdaaPrx11
import Derived.Test.YtnafjabpkbahdaaPrx12
namespace Go.Proofs.Ytnafjabpkbahdaa.Pr
open Go.RowKit Go.Proofs.YtnafjabpkbahdaaW.PrintWords Go.Proofs.YtnafjabpkbahdaaW.PrintLast Go.Proofs.YtnafjabpkbahdaaW.PrintMore
attribute [local go_sem] max2_int min2_int max_two min_two max_three min_three max_four min_four   -- for this text's walks alone
set_option linter.unusedVariables false
set_option linter.unusedSimpArgs false

/-! ### rubriclaw5_DecPairs: function 5 -/
mutual
def rubriclaw5_DecPairs.j0 : Nat → ByteArray → ByteArray → Bool → Option (Bool)
 | 0, _, _, _ => none
 | k + 1, x0, x1, x25 => if x25 = true then (some true) else ((dec_Parse.f k x0).bind fun bt373 => ((dec_Parse.f k x1).bind fun bt380 => (if bt373.2.2.2 = 0 then (rubriclaw5_DecPairs.j1 k (bt380.2.2.2 != 0) bt373.1 bt373.2.1 bt373.2.2.1 bt380.1 bt380.2.1 bt380.2.2.1) else (rubriclaw5_DecPairs.j1 k true bt373.1 bt373.2.1 bt373.2.2.1 bt380.1 bt380.2.1 bt380.2.2.1))))
def rubriclaw5_DecPairs.j1 : Nat → Bool → Bool → List Int → Int → Bool → List Int → Int → Option (Bool)
 | 0, _, _, _, _, _, _, _ => none
 | k + 1, x41, x380000, x380001, x380002, x387000, x387001, x387002 => if x41 = true then (some true) else ((dec_Add.f k x380000 x380001 x380002 x387000 x387001 x387002).bind fun bt387 => ((rubriclaw5_Of.f x380000 x380001 x380002).bind fun bt394 => ((rubriclaw5_Of.f x387000 x387001 x387002).bind fun bt399 => ((rubricref5_Add.f k bt394.1 bt394.2.1 bt394.2.2 bt399.1 bt399.2.1 bt399.2.2).bind fun bt404 => ((dec_Add.f k x387000 x387001 x387002 x380000 x380001 x380002).bind fun bt411 => ((dec_Cmp.f k x380000 x380001 x380002 x387000 x387001 x387002).bind fun t418 => ((rubriclaw5_same.f bt387.1 bt387.2.1 bt387.2.2.1 bt404.1 bt404.2.1 bt404.2.2.1).bind fun t419 => (if t419 = true then (if bt387.2.2.2 = bt404.2.2.2 then ((rubriclaw5_same.f bt411.1 bt411.2.1 bt411.2.2.1 bt404.1 bt404.2.1 bt404.2.2.1).bind fun t420 => (if t420 = true then (if bt387.2.2.2 = bt411.2.2.2 then ((rubriclaw5_Of.f x380000 x380001 x380002).bind fun bt421 => ((rubriclaw5_Of.f x387000 x387001 x387002).bind fun bt426 => ((rubricref5_Cmp.f k bt421.1 bt421.2.1 bt421.2.2 bt426.1 bt426.2.1 bt426.2.2).bind fun t431 => (if t418 = t431 then ((dec_Cmp.f k x387000 x387001 x387002 x380000 x380001 x380002).bind fun t432 => (if t432 = (wrap64 (-t418)) then ((G.dec_Dec_Text.f x380000 x380001 x380002).bind fun t433 => ((G.dec_Dec_Text.f x387000 x387001 x387002).bind fun t434 => (if ((t418 == 0) == (t433.toList == t434.toList)) = true then ((dec_Dec_Right.f k bt387.1 bt387.2.1 bt387.2.2.1).bind fun t435 => (some t435)) else (some false)))) else (some false))) else (some false))))) else (some false)) else (some false))) else (some false)) else (some false)))))))))
end
def rubriclaw5_DecPairs.f (k : Nat) (a0 : ByteArray) (a1 : ByteArray) : Option (Bool) := (rubriclaw5_known.f k).bind fun t372 => (if t372 = true then (if (a0.size : Int) > 600 then (rubriclaw5_DecPairs.j0 k a0 a1 true) else (rubriclaw5_DecPairs.j0 k a0 a1 (decide ((a1.size : Int) > 600)))) else (some false))
theorem rubriclaw5_DecPairs.mono_l : ∀ k, (∀ y0 y1 y2, LeO (rubriclaw5_DecPairs.j0 k y0 y1 y2) (rubriclaw5_DecPairs.j0 (k + 1) y0 y1 y2)) ∧ (∀ y0 y1 y2 y3 y4 y5 y6, LeO (rubriclaw5_DecPairs.j1 k y0 y1 y2 y3 y4 y5 y6) (rubriclaw5_DecPairs.j1 (k + 1) y0 y1 y2 y3 y4 y5 y6))
 | 0 => ⟨fun _ _ _ r h => by simp [rubriclaw5_DecPairs.j0] at h, fun _ _ _ _ _ _ _ r h => by simp [rubriclaw5_DecPairs.j1] at h⟩
 | k + 1 => by
  obtain ⟨ih0, ih1⟩ := rubriclaw5_DecPairs.mono_l k
  refine ⟨?_, ?_⟩
  ·intro y0 y1 y2
   unfold rubriclaw5_DecPairs.j0
   repeat' first
   | (with_reducible exact ih0 _ _ _)
   | (with_reducible exact ih1 _ _ _ _ _ _ _)
   | (with_reducible exact dec_Add.mono _ _ _ _ _ _ _)
   | (with_reducible exact dec_Cmp.mono _ _ _ _ _ _ _)
   | (with_reducible exact dec_Dec_Right.mono _ _ _ _)
   | (with_reducible exact dec_Parse.mono _ _)
   | (with_reducible exact rubriclaw5_known.mono _)
   | (with_reducible exact rubricref5_Add.mono _ _ _ _ _ _ _)
   | (with_reducible exact rubricref5_Cmp.mono _ _ _ _ _ _ _)
   | (with_reducible exact LeO.refl _)
   | (with_reducible exact LeO.none _)
   | (with_reducible refine LeO.ite ?_ ?_)
   | (with_reducible refine LeO.bind ?_ (fun _ => ?_))
   | exact ih0 _ _ _
   | exact ih1 _ _ _ _ _ _ _
   | exact dec_Add.mono _ _ _ _ _ _ _
   | exact dec_Cmp.mono _ _ _ _ _ _ _
   | exact dec_Dec_Right.mono _ _ _ _
   | exact dec_Parse.mono _ _
   | exact rubriclaw5_known.mono _
   | exact rubricref5_Add.mono _ _ _ _ _ _ _
   | exact rubricref5_Cmp.mono _ _ _ _ _ _ _
   | exact LeO.none _
   | refine LeO.ite ?_ ?_
   | refine LeO.bind ?_ (fun _ => ?_)
  ·intro y0 y1 y2 y3 y4 y5 y6
   unfold rubriclaw5_DecPairs.j1
   repeat' first
   | (with_reducible exact ih0 _ _ _)
   | (with_reducible exact ih1 _ _ _ _ _ _ _)
   | (with_reducible exact dec_Add.mono _ _ _ _ _ _ _)
   | (with_reducible exact dec_Cmp.mono _ _ _ _ _ _ _)
   | (with_reducible exact dec_Dec_Right.mono _ _ _ _)
   | (with_reducible exact dec_Parse.mono _ _)
   | (with_reducible exact rubriclaw5_known.mono _)
   | (with_reducible exact rubricref5_Add.mono _ _ _ _ _ _ _)
   | (with_reducible exact rubricref5_Cmp.mono _ _ _ _ _ _ _)
   | (with_reducible exact LeO.refl _)
   | (with_reducible exact LeO.none _)
   | (with_reducible refine LeO.ite ?_ ?_)
   | (with_reducible refine LeO.bind ?_ (fun _ => ?_))
   | exact ih0 _ _ _
   | exact ih1 _ _ _ _ _ _ _
   | exact dec_Add.mono _ _ _ _ _ _ _
   | exact dec_Cmp.mono _ _ _ _ _ _ _
   | exact dec_Dec_Right.mono _ _ _ _
   | exact dec_Parse.mono _ _
   | exact rubriclaw5_known.mono _
   | exact rubricref5_Add.mono _ _ _ _ _ _ _
   | exact rubricref5_Cmp.mono _ _ _ _ _ _ _
   | exact LeO.none _
   | refine LeO.ite ?_ ?_
   | refine LeO.bind ?_ (fun _ => ?_)
theorem rubriclaw5_DecPairs.mono : ∀ a0 a1 k, LeO (rubriclaw5_DecPairs.f k a0 a1) (rubriclaw5_DecPairs.f (k + 1) a0 a1) := by
 intro a0 a1 k
 obtain ⟨ih0, ih1⟩ := rubriclaw5_DecPairs.mono_l k
 unfold rubriclaw5_DecPairs.f
 repeat' first
   | (with_reducible exact ih0 _ _ _)
   | (with_reducible exact ih1 _ _ _ _ _ _ _)
   | (with_reducible exact dec_Add.mono _ _ _ _ _ _ _)
   | (with_reducible exact dec_Cmp.mono _ _ _ _ _ _ _)
   | (with_reducible exact dec_Dec_Right.mono _ _ _ _)
   | (with_reducible exact dec_Parse.mono _ _)
   | (with_reducible exact rubriclaw5_known.mono _)
   | (with_reducible exact rubricref5_Add.mono _ _ _ _ _ _ _)
   | (with_reducible exact rubricref5_Cmp.mono _ _ _ _ _ _ _)
   | (with_reducible exact LeO.refl _)
   | (with_reducible exact LeO.none _)
   | (with_reducible refine LeO.ite ?_ ?_)
   | (with_reducible refine LeO.bind ?_ (fun _ => ?_))
   | exact ih0 _ _ _
   | exact ih1 _ _ _ _ _ _ _
   | exact dec_Add.mono _ _ _ _ _ _ _
   | exact dec_Cmp.mono _ _ _ _ _ _ _
   | exact dec_Dec_Right.mono _ _ _ _
   | exact dec_Parse.mono _ _
   | exact rubriclaw5_known.mono _
   | exact rubricref5_Add.mono _ _ _ _ _ _ _
   | exact rubricref5_Cmp.mono _ _ _ _ _ _ _
   | exact LeO.none _
   | refine LeO.ite ?_ ?_
   | refine LeO.bind ?_ (fun _ => ?_)
def rubriclaw5_DecPairs.T10 : Bool × List (List Nat × List Nat) := (true, [([], []), ([0], [0]), ([], []), ([2, 1], [2]), ([1, 3, 3], [1, 3]), ([4], [4]), ([5], [5]), ([5], [5]), ([], []), ([8, 6, 4, 0, 1, 2, 3, 4, 5, 6, 8], [6, 8]), ([7, 9, 0, 1, 2, 3, 4, 5, 6, 7, 8, 9], [7])])
def rubriclaw5_DecPairs.B10 : List Nat := [0, 1, 0, 7, 15, 31, 63, 63, 0, 383, 1023]
theorem rubriclaw5_DecPairs.tab10 : rtab .any (opsOf Try.f5 10) = rubriclaw5_DecPairs.T10 := by kernel_rfl
theorem rubriclaw5_DecPairs.bits10 : waitsOk rubriclaw5_DecPairs.T10.2 rubriclaw5_DecPairs.B10 = true := by kernel_rfl
def rubriclaw5_DecPairs.T13 : Bool × List (List Nat × List Nat) := (true, [([], []), ([], []), ([0, 1], [0, 1]), ([2, 2], [2]), ([3], [3]), ([3], [3]), ([4, 5, 3], [3, 4, 5]), ([3, 6], [3, 6]), ([7, 3], [7]), ([8], [8]), ([8], [8]), ([9, 10, 8, 8], [8, 9, 10]), ([8, 11], [8, 11]), ([12, 11], [12]), ([13], [13]), ([13], [13]), ([14, 15, 13], [13, 14, 15]), ([13, 16], [13, 16]), ([17, 13], [17]), ([18], [18]), ([18], [18]), ([20, 18, 18], [18, 20]), ([18], [18]), ([22, 21, 18], [18, 22]), ([21, 23, 23, 18], [18, 21, 23]), ([19, 24, 18], [18, 19, 24]), ([18, 25], [18, 25]), ([26, 24], [26]), ([27], [27]), ([27], [27]), ([28, 29, 27, 27], [27, 28, 29]), ([27], [27]), ([31, 27], [27, 31]), ([30, 32, 27], [27, 30, 32]), ([27, 33], [27, 33]), ([34, 30], [34]), ([35], [35]), ([36, 35], [35, 36]), ([35], [35]), ([38, 35, 35], [35, 38]), ([35], [35]), ([40, 39, 35], [35, 40]), ([39, 41, 35], [35, 39, 41]), ([37, 42, 35], [35, 37, 42]), ([35, 43], [35, 43]), ([44, 41], [44]), ([45], [45]), ([46, 45, 45], [45, 46]), ([45, 47], [45, 47]), ([48, 47, 0, 1, 2, 3, 4, 5, 6, 7, 8, 9, 10, 11, 12, 13, 14, 15, 16, 17, 18, 19, 20, 21, 22, 23, 24, 25, 26, 27, 28, 29, 30, 31, 32, 33, 34, 35, 36, 37, 38, 39, 40, 41, 42, 43, 44, 45, 46, 47, 48], [48])])
def rubriclaw5_DecPairs.B13 : List Nat := [0, 0, 3, 7, 15, 15, 63, 127, 255, 511, 511, 2047, 4095, 8191, 16383, 16383, 65535, 131071, 262143, 524287, 524287, 1572863, 524287, 7864319, 16252927, 33554431, 67108863, 134217727, 268435455, 268435455, 1073741823, 268435455, 2415919103, 8589934591, 17179869183, 34359738367, 68719476735, 137438953471, 68719476735, 343597383679, 68719476735, 1992864825343, 4191888080895, 8796093022207, 17592186044415, 35184372088831, 70368744177663, 140737488355327, 281474976710655, 562949953421311]
theorem rubriclaw5_DecPairs.tab13 : rtab .any (opsOf Try.f5 13) = rubriclaw5_DecPairs.T13 := by kernel_rfl
theorem rubriclaw5_DecPairs.bits13 : waitsOk rubriclaw5_DecPairs.T13.2 rubriclaw5_DecPairs.B13 = true := by kernel_rfl
set_option maxHeartbeats 8000000 in
set_option maxRecDepth 100000 in
theorem rubriclaw5_DecPairs.calls (k : Nat) (a0 : ByteArray) (a1 : ByteArray) (r : Bool) (w : World) (h : rubriclaw5_DecPairs.f k a0 a1 = some r) (hrt : r = true) :
  Calls Try.prog 5 #[.string a0, .string a1] w fun e w' => e = .returned (.bool r) ∧ Below w.heap.size w w' := by
 have hu25 := Try.underlying25
 have hu36 := Try.underlying36
 have HB := Aside0.mk (Below.refl w.heap.size w)
 have HRT := Aside0.mk hrt
 clear hrt
 have H : ((rubriclaw5_known.f k).bind fun t372 => (if t372 = true then (if (a0.size : Int) > 600 then (rubriclaw5_DecPairs.j0 k a0 a1 true) else (rubriclaw5_DecPairs.j0 k a0 a1 (decide ((a1.size : Int) > 600)))) else (some false))) = some r := h
 clear h
 replace H := Option.bind_eq_some_iff.mp H
 obtain ⟨t372, A30, H⟩ := H
 replace H : (if t372 = true then (if (a0.size : Int) > 600 then (rubriclaw5_DecPairs.j0 k a0 a1 true) else (rubriclaw5_DecPairs.j0 k a0 a1 (decide ((a1.size : Int) > 600)))) else (some false)) = some r := H
 have A3 := Aside0.mk A30
 clear A30
 by_cases c4 : t372 = true
 ·subst c4
  have H1 : (if (a0.size : Int) > 600 then (rubriclaw5_DecPairs.j0 k a0 a1 true) else (rubriclaw5_DecPairs.j0 k a0 a1 (decide ((a1.size : Int) > 600)))) = some r := by rw [if_pos rfl] at H; exact H
  clear H
  have H := H1
  clear H1
  have HC5 := Aside0.mk H
  clear H
  go_enter Try.func5, Try.ntmps5
  go_upto_region 3 with (first | ((with_reducible refine gate_callee (f := 6) rfl ?_); refine goesL_ (some 16) rfl rfl Try.func6 (by kernel_rfl) rfl #[] rfl (by (try simp only [List.map_toArray, List.map_cons, List.map_nil]); first | done | rfl | (simp only [List.length_drop, List.length_take]; rfl)) ?_; (with_reducible refine (rubriclaw5_known.calls k  true _ A3.out rfl).mono ?_); rintro e w6 ⟨rfl, hb⟩; refine ⟨_, rfl, ?_⟩; have n0_ := Aside0.mk (below_step (by repeat (first | (with_reducible first | exact HB.out | apply below_alloc | apply pw_below_drewN | apply below_drew1) | exact HB.out)) hb); clear HB; have HB := n0_; clear n0_; (try clear hb); (try clear hb2); (try clear hk); (try clear hi)))
  (try simp only [Act.put, List.setIfInBounds_toArray, List.set_cons_zero, List.set_cons_succ])
  go_cut [25] (fun v25 wc => ∃ (kq : Nat) (x25_4 : Bool), v25 = .bool x25_4 ∧ Aside0 (rubriclaw5_DecPairs.j0 kq a0 a1 x25_4 = some r) ∧ Aside0 (kq ≤ k) ∧ Aside0 (Below w.heap.size w wc))
  case first =>
   have H := HC5.out
   clear HC5
   by_cases c7 : (a0.size : Int) > 600
   ·rw [if_pos c7] at H
    have c7b0 : decide (600 < (a0.size : Int)) = true := decide_eq_true c7
    have c7b1 : decide (600 < a0.size) = true := decide_eq_true (by omega)
    clear c7
    (first | rw [c7b0] | (simp only [i64_w, i32_w]; rw [c7b0]) | skip)
    have H' := Aside0.mk H
    clear H
    go_wp2
    go_meet
    case rel => exact ⟨_, (true), (by first | rfl | (simp; done) | (simp [*]; done)), H', ⟨by first | omega | exact Nat.le_refl _⟩, ⟨by repeat (first | (with_reducible first | exact HB.out | apply below_alloc | apply pw_below_drewN | apply below_drew1) | exact HB.out)⟩⟩
   ·rw [if_neg c7] at H
    have c7b0 : decide (600 < (a0.size : Int)) = false := decide_eq_false c7
    have c7b1 : decide (600 < a0.size) = false := decide_eq_false (by omega)
    clear c7
    (first | rw [c7b0] | (simp only [i64_w, i32_w]; rw [c7b0]) | skip)
    have H' := Aside0.mk H
    clear H
    go_wp2
    go_meet
    case rel => exact ⟨_, (decide ((a1.size : Int) > 600)), (by first | rfl | (simp; done) | (simp [*]; done)), H', ⟨by first | omega | exact Nat.le_refl _⟩, ⟨by repeat (first | (with_reducible first | exact HB.out | apply below_alloc | apply pw_below_drewN | apply below_drew1) | exact HB.out)⟩⟩
  case rest =>
   clear HC5
   try clear p2
   try clear c4
   try clear c5
   try clear c6
   try clear c7
   try clear c7b0
   try clear c7b1
   obtain ⟨kq, x25_4, rfl, HA, HJ4, HB⟩ := hcut
   cases kq with
   | zero => exact absurd HA.out (by simp [rubriclaw5_DecPairs.j0])
   | succ kj4 =>
    have H := HA.out
    clear HA
    simp only [rubriclaw5_DecPairs.j0] at H
    by_cases c8 : x25_4 = true
    ·subst c8
     have H1 : (some true) = some r := by rw [if_pos rfl] at H; exact H
     clear H
     have H := H1
     clear H1
     obtain rfl := Option.some.inj H
     go_wp2
     go_ret
     exact ⟨by first | rfl | (simp [errW_none, errW_some] <;> rfl) | (simp [*, errW_none, errW_some] <;> rfl), by repeat (first | (with_reducible first | exact HB.out | apply below_alloc | apply pw_below_drewN | apply below_drew1) | exact HB.out)⟩
    ·replace c8 := Bool.eq_false_iff.mpr c8
     subst c8
     have H1 : ((dec_Parse.f kj4 a0).bind fun bt373 => ((dec_Parse.f kj4 a1).bind fun bt380 => (if bt373.2.2.2 = 0 then (rubriclaw5_DecPairs.j1 kj4 (bt380.2.2.2 != 0) bt373.1 bt373.2.1 bt373.2.2.1 bt380.1 bt380.2.1 bt380.2.2.1) else (rubriclaw5_DecPairs.j1 kj4 true bt373.1 bt373.2.1 bt373.2.2.1 bt380.1 bt380.2.1 bt380.2.2.1)))) = some r := by rw [if_neg (show ¬ (false = true) by decide)] at H; exact H
     clear H
     have H := H1
     clear H1
     replace H := Option.bind_eq_some_iff.mp H
     obtain ⟨⟨t373, t374, t377, t378⟩, A90, H⟩ := H
     replace H : ((dec_Parse.f kj4 a1).bind fun bt380 => (if t378 = 0 then (rubriclaw5_DecPairs.j1 kj4 (bt380.2.2.2 != 0) t373 t374 t377 bt380.1 bt380.2.1 bt380.2.2.1) else (rubriclaw5_DecPairs.j1 kj4 true t373 t374 t377 bt380.1 bt380.2.1 bt380.2.2.1))) = some r := H
     have A9 := Aside0.mk A90
     clear A90
     replace H := Option.bind_eq_some_iff.mp H
     obtain ⟨⟨t380, t381, t384, t385⟩, A100, H⟩ := H
     replace H : (if t378 = 0 then (rubriclaw5_DecPairs.j1 kj4 (t385 != 0) t373 t374 t377 t380 t381 t384) else (rubriclaw5_DecPairs.j1 kj4 true t373 t374 t377 t380 t381 t384)) = some r := H
     have A10 := Aside0.mk A100
     clear A100
     have HC11 := Aside0.mk H
     clear H
     go_upto_region 7 with (first | ((with_reducible refine gate_callee (f := 7) rfl ?_); refine goesL_ (some 28) rfl rfl Try.func7 (by kernel_rfl) rfl #[.string a0] rfl (by (try simp only [List.map_toArray, List.map_cons, List.map_nil]); first | done | rfl | (simp only [List.length_drop, List.length_take]; rfl)) ?_; (with_reducible refine (dec_Parse.calls kj4 a0 t373 t374 t377 t378 _ A9.out).mono ?_); rintro e w12 ⟨v375, rfl, ho0, hb⟩; refine ⟨_, rfl, ?_⟩; have n0_ := Aside0.mk (Kd.V_lower (Kd.V_mono (ok' := fun k_ => True) ho0 (fun k_ hk_ => trivial)) (below_size (by repeat (first | (with_reducible first | exact HB.out | apply below_alloc | apply pw_below_drewN | apply below_drew1) | exact HB.out)))); have n1_ := Aside0.mk (below_step (by repeat (first | (with_reducible first | exact HB.out | apply below_alloc | apply pw_below_drewN | apply below_drew1) | exact HB.out)) hb); clear HB; have HO376 := n0_; have HB := n1_; clear n0_ n1_; (try clear hb); (try clear hb2); (try clear hk); (try clear hi); (try clear ho0)) | ((with_reducible refine gate_dst (N := 5) rfl ?_); (try (refine gate_guard (by rfl) ?_; dsimp only)); refine box_event ?hg (N := 5) ?hd (cs := #[.bool false, .slice none 0 0, .int .i64 0]) (t := 25) ?hr ?_; (case hd => rfl); (case hg => rfl); (case hr => first | (go_simp; done) | (go_simp; rfl)); intro gb379 hg w13 hbox hb; have n0_ := Aside0.mk (Kd.V_below (Kd.V_elderB (S.v HO376.out) gb379 (Nat.le_of_eq hg.symm)) hb); have n1_ := Aside0.mk (below_step (by repeat (first | (with_reducible first | exact HB.out | apply below_alloc | apply pw_below_drewN | apply below_drew1) | exact HB.out)) hb); have n2_ := Aside0.mk (hbox); have n3_ := Aside0.mk ((by rw [hg]; exact (below_size (by repeat (first | (with_reducible first | exact HB.out | apply below_alloc | apply pw_below_drewN | apply below_drew1) | exact HB.out))) : w.heap.size ≤ gb379)); have n4_ := Aside0.mk ((by rw [hg]; exact (below_size (by repeat (first | (with_reducible first | exact HB.out | apply below_alloc | apply pw_below_drewN | apply below_drew1) | exact HB.out))) : w.heap.size ≤ gb379)); clear HO376; clear HB; have HO376 := n0_; have HB := n1_; have BK379 := n2_; have GW379 := n3_; have GE379 := n4_; clear n0_ n1_ n2_ n3_ n4_; clear hb hbox hg; have hcz14_0 : w13.cell? ⟨gb379, 0, none⟩ = some (.bool false) := (blk_cell BK379.out 0).trans rfl; have hcz14_1 : w13.cell? ⟨gb379, 1, none⟩ = some (.slice none 0 0) := (blk_cell BK379.out 1).trans rfl; have hcz14_2 : w13.cell? ⟨gb379, 2, none⟩ = some (.int .i64 0) := (blk_cell BK379.out 2).trans rfl; have hfz14_0 := blk_frozen BK379.out 0; have hfz14_1 := blk_frozen BK379.out 1; have hfz14_2 := blk_frozen BK379.out 2; obtain ⟨Ao15, co15, eo15⟩ := Kd.V_slice HO376.out; subst eo15) | ((with_reducible refine gate_callee (f := 7) rfl ?_); refine goesL_ (some 33) rfl rfl Try.func7 (by kernel_rfl) rfl #[.string a1] rfl (by (try simp only [List.map_toArray, List.map_cons, List.map_nil]); first | done | rfl | (simp only [List.length_drop, List.length_take]; rfl)) ?_; (with_reducible refine (dec_Parse.calls kj4 a1 t380 t381 t384 t385 _ A10.out).mono ?_); rintro e w16 ⟨v382, rfl, ho0, hb⟩; refine ⟨_, rfl, ?_⟩; have n0_ := Aside0.mk (Kd.V_below (by (with_reducible repeat (first | apply Kd.V_alloc | apply Kd.V_drewN | apply Kd.V_drew)); exact (Kd.V_mono (Kd.V_far (p := ⟨gb379, 2, none⟩) (Kd.V_far (p := ⟨gb379, 1, none⟩) (Kd.V_far (p := ⟨gb379, 0, none⟩) (Kd.V_mono HO376.out (fun k_ hk => (⟨hk, hk.2⟩ : _ ∧ k_ ≠ gb379))) (fun _ hk => hk.2) (.bool t373)) (fun _ hk => hk.2) (.slice Ao15 t374.length co15)) (fun _ hk => hk.2) (.int .i64 t377)) (fun _ h_ => h_.1))) hb); have n1_ := Aside0.mk (Kd.V_lower (Kd.V_mono (ok' := fun k_ => k_ ≠ gb379) ho0 (fun k_ hk_ => (Kd.freshB (g := gb379) (o := .cells #[.bool t373, .slice Ao15 t374.length co15, .int .i64 t377] 25 (0, 0)) (by (with_reducible repeat (first | refine blk_drewN ?_ _ | refine blk_drew ?_ | refine blk_alloc ?_ _)); refine blk_put (cs := #[.bool t373, .slice Ao15 t374.length co15, .int .i64 0]) ?_ 2 _ rfl; (with_reducible repeat (first | refine blk_drewN ?_ _ | refine blk_drew ?_ | refine blk_alloc ?_ _)); refine blk_put (cs := #[.bool t373, .slice none 0 0, .int .i64 0]) ?_ 1 _ rfl; (with_reducible repeat (first | refine blk_drewN ?_ _ | refine blk_drew ?_ | refine blk_alloc ?_ _)); refine blk_put (cs := #[.bool false, .slice none 0 0, .int .i64 0]) ?_ 0 _ rfl; (with_reducible repeat (first | refine blk_drewN ?_ _ | refine blk_drew ?_ | refine blk_alloc ?_ _)); exact BK379.out) k_ hk_))) (below_size (by repeat (first | (with_reducible first | exact HB.out | apply below_alloc | apply pw_below_drewN | apply below_drew1 | refine below_set ?_ GE379.out) | exact HB.out)))); have n2_ := Aside0.mk (blk_below (g := gb379) (o := .cells #[.bool t373, .slice Ao15 t374.length co15, .int .i64 t377] 25 (0, 0)) (by (with_reducible repeat (first | refine blk_drewN ?_ _ | refine blk_drew ?_ | refine blk_alloc ?_ _)); refine blk_put (cs := #[.bool t373, .slice Ao15 t374.length co15, .int .i64 0]) ?_ 2 _ rfl; (with_reducible repeat (first | refine blk_drewN ?_ _ | refine blk_drew ?_ | refine blk_alloc ?_ _)); refine blk_put (cs := #[.bool t373, .slice none 0 0, .int .i64 0]) ?_ 1 _ rfl; (with_reducible repeat (first | refine blk_drewN ?_ _ | refine blk_drew ?_ | refine blk_alloc ?_ _)); refine blk_put (cs := #[.bool false, .slice none 0 0, .int .i64 0]) ?_ 0 _ rfl; (with_reducible repeat (first | refine blk_drewN ?_ _ | refine blk_drew ?_ | refine blk_alloc ?_ _)); exact BK379.out) hb); have n3_ := Aside0.mk (below_step (by repeat (first | (with_reducible first | exact HB.out | apply below_alloc | apply pw_below_drewN | apply below_drew1 | refine below_set ?_ GE379.out) | exact HB.out)) hb); clear HO376; clear BK379; clear HB; have HO376 := n0_; have HO383 := n1_; have BK379 := n2_; have HB := n3_; clear n0_ n1_ n2_ n3_; (try clear hb); (try clear hb2); (try clear hk); (try clear hi); (try clear ho0)) | ((with_reducible refine gate_dst (N := 7) rfl ?_); (try (refine gate_guard (by rfl) ?_; dsimp only)); refine box_event ?hg (N := 7) ?hd (cs := #[.bool false, .slice none 0 0, .int .i64 0]) (t := 25) ?hr ?_; (case hd => rfl); (case hg => rfl); (case hr => first | (go_simp; done) | (go_simp; rfl)); intro gb386 hg w17 hbox hb; have n0_ := Aside0.mk (Kd.V_below (Kd.V_elderB (S.v HO376.out) gb386 (Nat.le_of_eq hg.symm)) hb); have n1_ := Aside0.mk (Kd.V_below (Kd.V_elderB (S.v HO383.out) gb386 (Nat.le_of_eq hg.symm)) hb); have n2_ := Aside0.mk (blk_below (g := gb379) (o := .cells #[.bool t373, .slice Ao15 t374.length co15, .int .i64 t377] 25 (0, 0)) (S.b BK379.out) hb); have n3_ := Aside0.mk (below_step (by repeat (first | (with_reducible first | exact HB.out | apply below_alloc | apply pw_below_drewN | apply below_drew1 | refine below_set ?_ GE379.out) | exact HB.out)) hb); have n4_ := Aside0.mk (hbox); have n5_ := Aside0.mk ((by rw [hg]; exact (below_size (by repeat (first | (with_reducible first | exact HB.out | apply below_alloc | apply pw_below_drewN | apply below_drew1 | refine below_set ?_ GE379.out) | exact HB.out))) : w.heap.size ≤ gb386)); have n6_ := Aside0.mk ((by rw [hg]; exact (below_size (by repeat (first | (with_reducible first | exact HB.out | apply below_alloc | apply pw_below_drewN | apply below_drew1 | refine below_set ?_ GE379.out) | exact HB.out))) : w.heap.size ≤ gb386)); have n7_ := Aside0.mk ((by rw [hg]; exact Nat.ne_of_lt (blk_lt (g := gb379) (o := .cells #[.bool t373, .slice Ao15 t374.length co15, .int .i64 t377] 25 (0, 0)) (S.b BK379.out)) : gb379 ≠ gb386)); have n8_ := Aside0.mk ((by rw [hg]; exact Nat.ne_of_gt (blk_lt (g := gb379) (o := .cells #[.bool t373, .slice Ao15 t374.length co15, .int .i64 t377] 25 (0, 0)) (S.b BK379.out)) : gb386 ≠ gb379)); clear HO376; clear HO383; clear BK379; clear HB; have HO376 := n0_; have HO383 := n1_; have BK379 := n2_; have HB := n3_; have BK386 := n4_; have GW386 := n5_; have GE386 := n6_; have NB379_386 := n7_; have NB386_379 := n8_; clear n0_ n1_ n2_ n3_ n4_ n5_ n6_ n7_ n8_; clear hb hbox hg; have hnb18 := NB386_379.out; have hnc18 := NB379_386.out; have hcz19_0 : w17.cell? ⟨gb386, 0, none⟩ = some (.bool false) := (blk_cell BK386.out 0).trans rfl; have hcz19_1 : w17.cell? ⟨gb386, 1, none⟩ = some (.slice none 0 0) := (blk_cell BK386.out 1).trans rfl; have hcz19_2 : w17.cell? ⟨gb386, 2, none⟩ = some (.int .i64 0) := (blk_cell BK386.out 2).trans rfl; have hfz19_0 := blk_frozen BK386.out 0; have hfz19_1 := blk_frozen BK386.out 1; have hfz19_2 := blk_frozen BK386.out 2; obtain ⟨Ao20, co20, eo20⟩ := Kd.V_slice HO383.out; subst eo20))
     (try simp only [Act.put, List.setIfInBounds_toArray, List.set_cons_zero, List.set_cons_succ])
     go_cut [41] (fun v41 wc => ∃ (kq : Nat) (x41_10 : Bool), v41 = .bool x41_10 ∧ Aside0 (rubriclaw5_DecPairs.j1 kq x41_10 t373 t374 t377 t380 t381 t384 = some r) ∧ Aside0 (kq ≤ kj4) ∧ Aside0 (Kd.V (Kd.int .u8) 5 wc w.heap.size (fun k_ => k_ ≠ gb379 ∧ k_ ≠ gb386) (.slice Ao15 t374.length co15) t374) ∧ Aside0 (Kd.V (Kd.int .u8) 5 wc w.heap.size (fun k_ => k_ ≠ gb379 ∧ k_ ≠ gb386) (.slice Ao20 t381.length co20) t381) ∧ Aside0 (wc.heap[gb379]? = some (.cells #[.bool t373, (.slice Ao15 t374.length co15), .int .i64 t377] 25 (0, 0))) ∧ Aside0 (wc.heap[gb386]? = some (.cells #[.bool t380, (.slice Ao20 t381.length co20), .int .i64 t384] 25 (0, 0))) ∧ Aside0 (Below w.heap.size w wc))
     case first =>
      have H := HC11.out
      clear HC11
      by_cases c21 : t378 = 0
      ·rw [if_pos c21] at H
       have c21b0 : (t378 == 0) = true := beq_iff_eq.mpr c21
       have c21b1 : (t378 != 0) = false := bne_eq_false_iff_eq.mpr c21
       clear c21
       (first | rw [c21b0] | (simp only [i64_w, i32_w]; rw [c21b0]) | skip)
       have H' := Aside0.mk H
       clear H
       go_wp2
       go_meet
       case rel => exact ⟨_, ((t385 != 0)), (by first | rfl | (simp; done) | (simp [*]; done)), H', ⟨by have := HJ4.out; first | omega | exact Nat.le_refl _⟩, ⟨by (with_reducible repeat (first | apply Kd.V_alloc | apply Kd.V_drewN | apply Kd.V_drew)); exact Kd.V_mono (Kd.V_far (p := ⟨gb386, 2, none⟩) (Kd.V_far (p := ⟨gb386, 1, none⟩) (Kd.V_far (p := ⟨gb386, 0, none⟩) (Kd.V_mono HO376.out (fun k_ hk => (⟨hk, hk.2⟩ : _ ∧ k_ ≠ gb386))) (fun _ hk => hk.2) (.bool t380)) (fun _ hk => hk.2) (.slice Ao20 t381.length co20)) (fun _ hk => hk.2) (.int .i64 t384)) (fun _ hk => ⟨hk.1.1.2, hk.1.2⟩)⟩, ⟨by (with_reducible repeat (first | apply Kd.V_alloc | apply Kd.V_drewN | apply Kd.V_drew)); exact Kd.V_mono (Kd.V_far (p := ⟨gb386, 2, none⟩) (Kd.V_far (p := ⟨gb386, 1, none⟩) (Kd.V_far (p := ⟨gb386, 0, none⟩) (Kd.V_mono HO383.out (fun k_ hk => (⟨hk, hk.2⟩ : _ ∧ k_ ≠ gb386))) (fun _ hk => hk.2) (.bool t380)) (fun _ hk => hk.2) (.slice Ao20 t381.length co20)) (fun _ hk => hk.2) (.int .i64 t384)) (fun _ hk => ⟨hk.1.1, hk.1.2⟩)⟩, ⟨by (with_reducible repeat (first | refine blk_drewN ?_ _ | refine blk_drew ?_ | refine blk_alloc ?_ _)); refine blk_far ?_ NB379_386.out _; (with_reducible repeat (first | refine blk_drewN ?_ _ | refine blk_drew ?_ | refine blk_alloc ?_ _)); refine blk_far ?_ NB379_386.out _; (with_reducible repeat (first | refine blk_drewN ?_ _ | refine blk_drew ?_ | refine blk_alloc ?_ _)); refine blk_far ?_ NB379_386.out _; (with_reducible repeat (first | refine blk_drewN ?_ _ | refine blk_drew ?_ | refine blk_alloc ?_ _)); exact BK379.out⟩, ⟨by (with_reducible repeat (first | refine blk_drewN ?_ _ | refine blk_drew ?_ | refine blk_alloc ?_ _)); refine blk_put (cs := #[.bool t380, .slice Ao20 t381.length co20, .int .i64 0]) ?_ 2 _ rfl; (with_reducible repeat (first | refine blk_drewN ?_ _ | refine blk_drew ?_ | refine blk_alloc ?_ _)); refine blk_put (cs := #[.bool t380, .slice none 0 0, .int .i64 0]) ?_ 1 _ rfl; (with_reducible repeat (first | refine blk_drewN ?_ _ | refine blk_drew ?_ | refine blk_alloc ?_ _)); refine blk_put (cs := #[.bool false, .slice none 0 0, .int .i64 0]) ?_ 0 _ rfl; (with_reducible repeat (first | refine blk_drewN ?_ _ | refine blk_drew ?_ | refine blk_alloc ?_ _)); exact BK386.out⟩, ⟨by repeat (first | (with_reducible first | exact HB.out | apply below_alloc | apply pw_below_drewN | apply below_drew1 | refine below_set ?_ GE379.out | refine below_set ?_ GE386.out) | exact HB.out)⟩⟩
      ·rw [if_neg c21] at H
       have c21b0 : (t378 == 0) = false := beq_eq_false_iff_ne.mpr c21
       have c21b1 : (t378 != 0) = true := bne_iff_ne.mpr c21
       (first | rw [c21b0] | (simp only [i64_w, i32_w]; rw [c21b0]) | skip)
       have H' := Aside0.mk H
       clear H
       go_wp2
       go_meet
       case rel => exact ⟨_, (true), (by first | rfl | (simp; done) | (simp [*]; done)), H', ⟨by have := HJ4.out; first | omega | exact Nat.le_refl _⟩, ⟨by (with_reducible repeat (first | apply Kd.V_alloc | apply Kd.V_drewN | apply Kd.V_drew)); exact Kd.V_mono (Kd.V_far (p := ⟨gb386, 2, none⟩) (Kd.V_far (p := ⟨gb386, 1, none⟩) (Kd.V_far (p := ⟨gb386, 0, none⟩) (Kd.V_mono HO376.out (fun k_ hk => (⟨hk, hk.2⟩ : _ ∧ k_ ≠ gb386))) (fun _ hk => hk.2) (.bool t380)) (fun _ hk => hk.2) (.slice Ao20 t381.length co20)) (fun _ hk => hk.2) (.int .i64 t384)) (fun _ hk => ⟨hk.1.1.2, hk.1.2⟩)⟩, ⟨by (with_reducible repeat (first | apply Kd.V_alloc | apply Kd.V_drewN | apply Kd.V_drew)); exact Kd.V_mono (Kd.V_far (p := ⟨gb386, 2, none⟩) (Kd.V_far (p := ⟨gb386, 1, none⟩) (Kd.V_far (p := ⟨gb386, 0, none⟩) (Kd.V_mono HO383.out (fun k_ hk => (⟨hk, hk.2⟩ : _ ∧ k_ ≠ gb386))) (fun _ hk => hk.2) (.bool t380)) (fun _ hk => hk.2) (.slice Ao20 t381.length co20)) (fun _ hk => hk.2) (.int .i64 t384)) (fun _ hk => ⟨hk.1.1, hk.1.2⟩)⟩, ⟨by (with_reducible repeat (first | refine blk_drewN ?_ _ | refine blk_drew ?_ | refine blk_alloc ?_ _)); refine blk_far ?_ NB379_386.out _; (with_reducible repeat (first | refine blk_drewN ?_ _ | refine blk_drew ?_ | refine blk_alloc ?_ _)); refine blk_far ?_ NB379_386.out _; (with_reducible repeat (first | refine blk_drewN ?_ _ | refine blk_drew ?_ | refine blk_alloc ?_ _)); refine blk_far ?_ NB379_386.out _; (with_reducible repeat (first | refine blk_drewN ?_ _ | refine blk_drew ?_ | refine blk_alloc ?_ _)); exact BK379.out⟩, ⟨by (with_reducible repeat (first | refine blk_drewN ?_ _ | refine blk_drew ?_ | refine blk_alloc ?_ _)); refine blk_put (cs := #[.bool t380, .slice Ao20 t381.length co20, .int .i64 0]) ?_ 2 _ rfl; (with_reducible repeat (first | refine blk_drewN ?_ _ | refine blk_drew ?_ | refine blk_alloc ?_ _)); refine blk_put (cs := #[.bool t380, .slice none 0 0, .int .i64 0]) ?_ 1 _ rfl; (with_reducible repeat (first | refine blk_drewN ?_ _ | refine blk_drew ?_ | refine blk_alloc ?_ _)); refine blk_put (cs := #[.bool false, .slice none 0 0, .int .i64 0]) ?_ 0 _ rfl; (with_reducible repeat (first | refine blk_drewN ?_ _ | refine blk_drew ?_ | refine blk_alloc ?_ _)); exact BK386.out⟩, ⟨by repeat (first | (with_reducible first | exact HB.out | apply below_alloc | apply pw_below_drewN | apply below_drew1 | refine below_set ?_ GE379.out | refine below_set ?_ GE386.out) | exact HB.out)⟩⟩
     case rest =>
      clear HC11
      try clear c1
      try clear c2
      try clear p2
      try clear c4
      try clear c5
      try clear c6
      try clear c7
      try clear c7b0
      try clear c7b1
      try clear c8
      try clear c18
      try clear c21
      try clear c21b0
      try clear c21b1
      try clear hcz14_0
      try clear hcz14_1
      try clear hcz14_2
      try clear hcz19_0
      try clear hcz19_1
      try clear hcz19_2
      try clear hfz14_0
      try clear hfz14_1
      try clear hfz14_2
      try clear hfz19_0
      try clear hfz19_1
      try clear hfz19_2
      try clear p2
      obtain ⟨kq, x41_10, rfl, HA, HJ10, HO_380001, HO_387001, BK379, BK386, HB⟩ := hcut
      cases kq with
      | zero => exact absurd HA.out (by simp [rubriclaw5_DecPairs.j1])
      | succ kj10 =>
       have H := HA.out
       clear HA
       simp only [rubriclaw5_DecPairs.j1] at H
       by_cases c22 : x41_10 = true
       ·subst c22
        have H1 : (some true) = some r := by rw [if_pos rfl] at H; exact H
        clear H
        have H := H1
        clear H1
        obtain rfl := Option.some.inj H
        go_wp2
        go_ret
        exact ⟨by first | rfl | (simp [errW_none, errW_some] <;> rfl) | (simp [*, errW_none, errW_some] <;> rfl), by repeat (first | (with_reducible first | exact HB.out | apply below_alloc | apply pw_below_drewN | apply below_drew1 | refine below_set ?_ GE379.out | refine below_set ?_ GE386.out) | exact HB.out)⟩
       ·replace c22 := Bool.eq_false_iff.mpr c22
        subst c22
        have H1 : ((dec_Add.f kj10 t373 t374 t377 t380 t381 t384).bind fun bt387 => ((rubriclaw5_Of.f t373 t374 t377).bind fun bt394 => ((rubriclaw5_Of.f t380 t381 t384).bind fun bt399 => ((rubricref5_Add.f kj10 bt394.1 bt394.2.1 bt394.2.2 bt399.1 bt399.2.1 bt399.2.2).bind fun bt404 => ((dec_Add.f kj10 t380 t381 t384 t373 t374 t377).bind fun bt411 => ((dec_Cmp.f kj10 t373 t374 t377 t380 t381 t384).bind fun t418 => ((rubriclaw5_same.f bt387.1 bt387.2.1 bt387.2.2.1 bt404.1 bt404.2.1 bt404.2.2.1).bind fun t419 => (if t419 = true then (if bt387.2.2.2 = bt404.2.2.2 then ((rubriclaw5_same.f bt411.1 bt411.2.1 bt411.2.2.1 bt404.1 bt404.2.1 bt404.2.2.1).bind fun t420 => (if t420 = true then (if bt387.2.2.2 = bt411.2.2.2 then ((rubriclaw5_Of.f t373 t374 t377).bind fun bt421 => ((rubriclaw5_Of.f t380 t381 t384).bind fun bt426 => ((rubricref5_Cmp.f kj10 bt421.1 bt421.2.1 bt421.2.2 bt426.1 bt426.2.1 bt426.2.2).bind fun t431 => (if t418 = t431 then ((dec_Cmp.f kj10 t380 t381 t384 t373 t374 t377).bind fun t432 => (if t432 = (wrap64 (-t418)) then ((G.dec_Dec_Text.f t373 t374 t377).bind fun t433 => ((G.dec_Dec_Text.f t380 t381 t384).bind fun t434 => (if ((t418 == 0) == (t433.toList == t434.toList)) = true then ((dec_Dec_Right.f kj10 bt387.1 bt387.2.1 bt387.2.2.1).bind fun t435 => (some t435)) else (some false)))) else (some false))) else (some false))))) else (some false)) else (some false))) else (some false)) else (some false))))))))) = some r := by rw [if_neg (show ¬ (false = true) by decide)] at H; exact H
        clear H
        have H := H1
        clear H1
        replace H := Option.bind_eq_some_iff.mp H
        obtain ⟨⟨t387, t388, t391, t392⟩, A230, H⟩ := H
        replace H : ((rubriclaw5_Of.f t373 t374 t377).bind fun bt394 => ((rubriclaw5_Of.f t380 t381 t384).bind fun bt399 => ((rubricref5_Add.f kj10 bt394.1 bt394.2.1 bt394.2.2 bt399.1 bt399.2.1 bt399.2.2).bind fun bt404 => ((dec_Add.f kj10 t380 t381 t384 t373 t374 t377).bind fun bt411 => ((dec_Cmp.f kj10 t373 t374 t377 t380 t381 t384).bind fun t418 => ((rubriclaw5_same.f t387 t388 t391 bt404.1 bt404.2.1 bt404.2.2.1).bind fun t419 => (if t419 = true then (if t392 = bt404.2.2.2 then ((rubriclaw5_same.f bt411.1 bt411.2.1 bt411.2.2.1 bt404.1 bt404.2.1 bt404.2.2.1).bind fun t420 => (if t420 = true then (if t392 = bt411.2.2.2 then ((rubriclaw5_Of.f t373 t374 t377).bind fun bt421 => ((rubriclaw5_Of.f t380 t381 t384).bind fun bt426 => ((rubricref5_Cmp.f kj10 bt421.1 bt421.2.1 bt421.2.2 bt426.1 bt426.2.1 bt426.2.2).bind fun t431 => (if t418 = t431 then ((dec_Cmp.f kj10 t380 t381 t384 t373 t374 t377).bind fun t432 => (if t432 = (wrap64 (-t418)) then ((G.dec_Dec_Text.f t373 t374 t377).bind fun t433 => ((G.dec_Dec_Text.f t380 t381 t384).bind fun t434 => (if ((t418 == 0) == (t433.toList == t434.toList)) = true then ((dec_Dec_Right.f kj10 t387 t388 t391).bind fun t435 => (some t435)) else (some false)))) else (some false))) else (some false))))) else (some false)) else (some false))) else (some false)) else (some false)))))))) = some r := H
        have A23 := Aside0.mk A230
        clear A230
        replace H := Option.bind_eq_some_iff.mp H
        obtain ⟨⟨t394, t395, t398⟩, A240, H⟩ := H
        replace H : ((rubriclaw5_Of.f t380 t381 t384).bind fun bt399 => ((rubricref5_Add.f kj10 t394 t395 t398 bt399.1 bt399.2.1 bt399.2.2).bind fun bt404 => ((dec_Add.f kj10 t380 t381 t384 t373 t374 t377).bind fun bt411 => ((dec_Cmp.f kj10 t373 t374 t377 t380 t381 t384).bind fun t418 => ((rubriclaw5_same.f t387 t388 t391 bt404.1 bt404.2.1 bt404.2.2.1).bind fun t419 => (if t419 = true then (if t392 = bt404.2.2.2 then ((rubriclaw5_same.f bt411.1 bt411.2.1 bt411.2.2.1 bt404.1 bt404.2.1 bt404.2.2.1).bind fun t420 => (if t420 = true then (if t392 = bt411.2.2.2 then ((rubriclaw5_Of.f t373 t374 t377).bind fun bt421 => ((rubriclaw5_Of.f t380 t381 t384).bind fun bt426 => ((rubricref5_Cmp.f kj10 bt421.1 bt421.2.1 bt421.2.2 bt426.1 bt426.2.1 bt426.2.2).bind fun t431 => (if t418 = t431 then ((dec_Cmp.f kj10 t380 t381 t384 t373 t374 t377).bind fun t432 => (if t432 = (wrap64 (-t418)) then ((G.dec_Dec_Text.f t373 t374 t377).bind fun t433 => ((G.dec_Dec_Text.f t380 t381 t384).bind fun t434 => (if ((t418 == 0) == (t433.toList == t434.toList)) = true then ((dec_Dec_Right.f kj10 t387 t388 t391).bind fun t435 => (some t435)) else (some false)))) else (some false))) else (some false))))) else (some false)) else (some false))) else (some false)) else (some false))))))) = some r := H
        have A24 := Aside0.mk A240
        clear A240
        replace H := Option.bind_eq_some_iff.mp H
        obtain ⟨⟨t399, t400, t403⟩, A250, H⟩ := H
        replace H : ((rubricref5_Add.f kj10 t394 t395 t398 t399 t400 t403).bind fun bt404 => ((dec_Add.f kj10 t380 t381 t384 t373 t374 t377).bind fun bt411 => ((dec_Cmp.f kj10 t373 t374 t377 t380 t381 t384).bind fun t418 => ((rubriclaw5_same.f t387 t388 t391 bt404.1 bt404.2.1 bt404.2.2.1).bind fun t419 => (if t419 = true then (if t392 = bt404.2.2.2 then ((rubriclaw5_same.f bt411.1 bt411.2.1 bt411.2.2.1 bt404.1 bt404.2.1 bt404.2.2.1).bind fun t420 => (if t420 = true then (if t392 = bt411.2.2.2 then ((rubriclaw5_Of.f t373 t374 t377).bind fun bt421 => ((rubriclaw5_Of.f t380 t381 t384).bind fun bt426 => ((rubricref5_Cmp.f kj10 bt421.1 bt421.2.1 bt421.2.2 bt426.1 bt426.2.1 bt426.2.2).bind fun t431 => (if t418 = t431 then ((dec_Cmp.f kj10 t380 t381 t384 t373 t374 t377).bind fun t432 => (if t432 = (wrap64 (-t418)) then ((G.dec_Dec_Text.f t373 t374 t377).bind fun t433 => ((G.dec_Dec_Text.f t380 t381 t384).bind fun t434 => (if ((t418 == 0) == (t433.toList == t434.toList)) = true then ((dec_Dec_Right.f kj10 t387 t388 t391).bind fun t435 => (some t435)) else (some false)))) else (some false))) else (some false))))) else (some false)) else (some false))) else (some false)) else (some false)))))) = some r := H
        have A25 := Aside0.mk A250
        clear A250
        replace H := Option.bind_eq_some_iff.mp H
        obtain ⟨⟨t404, t405, t408, t409⟩, A260, H⟩ := H
        replace H : ((dec_Add.f kj10 t380 t381 t384 t373 t374 t377).bind fun bt411 => ((dec_Cmp.f kj10 t373 t374 t377 t380 t381 t384).bind fun t418 => ((rubriclaw5_same.f t387 t388 t391 t404 t405 t408).bind fun t419 => (if t419 = true then (if t392 = t409 then ((rubriclaw5_same.f bt411.1 bt411.2.1 bt411.2.2.1 t404 t405 t408).bind fun t420 => (if t420 = true then (if t392 = bt411.2.2.2 then ((rubriclaw5_Of.f t373 t374 t377).bind fun bt421 => ((rubriclaw5_Of.f t380 t381 t384).bind fun bt426 => ((rubricref5_Cmp.f kj10 bt421.1 bt421.2.1 bt421.2.2 bt426.1 bt426.2.1 bt426.2.2).bind fun t431 => (if t418 = t431 then ((dec_Cmp.f kj10 t380 t381 t384 t373 t374 t377).bind fun t432 => (if t432 = (wrap64 (-t418)) then ((G.dec_Dec_Text.f t373 t374 t377).bind fun t433 => ((G.dec_Dec_Text.f t380 t381 t384).bind fun t434 => (if ((t418 == 0) == (t433.toList == t434.toList)) = true then ((dec_Dec_Right.f kj10 t387 t388 t391).bind fun t435 => (some t435)) else (some false)))) else (some false))) else (some false))))) else (some false)) else (some false))) else (some false)) else (some false))))) = some r := H
        have A26 := Aside0.mk A260
        clear A260
        replace H := Option.bind_eq_some_iff.mp H
        obtain ⟨⟨t411, t412, t415, t416⟩, A270, H⟩ := H
        replace H : ((dec_Cmp.f kj10 t373 t374 t377 t380 t381 t384).bind fun t418 => ((rubriclaw5_same.f t387 t388 t391 t404 t405 t408).bind fun t419 => (if t419 = true then (if t392 = t409 then ((rubriclaw5_same.f t411 t412 t415 t404 t405 t408).bind fun t420 => (if t420 = true then (if t392 = t416 then ((rubriclaw5_Of.f t373 t374 t377).bind fun bt421 => ((rubriclaw5_Of.f t380 t381 t384).bind fun bt426 => ((rubricref5_Cmp.f kj10 bt421.1 bt421.2.1 bt421.2.2 bt426.1 bt426.2.1 bt426.2.2).bind fun t431 => (if t418 = t431 then ((dec_Cmp.f kj10 t380 t381 t384 t373 t374 t377).bind fun t432 => (if t432 = (wrap64 (-t418)) then ((G.dec_Dec_Text.f t373 t374 t377).bind fun t433 => ((G.dec_Dec_Text.f t380 t381 t384).bind fun t434 => (if ((t418 == 0) == (t433.toList == t434.toList)) = true then ((dec_Dec_Right.f kj10 t387 t388 t391).bind fun t435 => (some t435)) else (some false)))) else (some false))) else (some false))))) else (some false)) else (some false))) else (some false)) else (some false)))) = some r := H
        have A27 := Aside0.mk A270
        clear A270
        replace H := Option.bind_eq_some_iff.mp H
        obtain ⟨t418, A280, H⟩ := H
        replace H : ((rubriclaw5_same.f t387 t388 t391 t404 t405 t408).bind fun t419 => (if t419 = true then (if t392 = t409 then ((rubriclaw5_same.f t411 t412 t415 t404 t405 t408).bind fun t420 => (if t420 = true then (if t392 = t416 then ((rubriclaw5_Of.f t373 t374 t377).bind fun bt421 => ((rubriclaw5_Of.f t380 t381 t384).bind fun bt426 => ((rubricref5_Cmp.f kj10 bt421.1 bt421.2.1 bt421.2.2 bt426.1 bt426.2.1 bt426.2.2).bind fun t431 => (if t418 = t431 then ((dec_Cmp.f kj10 t380 t381 t384 t373 t374 t377).bind fun t432 => (if t432 = (wrap64 (-t418)) then ((G.dec_Dec_Text.f t373 t374 t377).bind fun t433 => ((G.dec_Dec_Text.f t380 t381 t384).bind fun t434 => (if ((t418 == 0) == (t433.toList == t434.toList)) = true then ((dec_Dec_Right.f kj10 t387 t388 t391).bind fun t435 => (some t435)) else (some false)))) else (some false))) else (some false))))) else (some false)) else (some false))) else (some false)) else (some false))) = some r := H
        have A28 := Aside0.mk A280
        clear A280
        replace H := Option.bind_eq_some_iff.mp H
        obtain ⟨t419, A290, H⟩ := H
        replace H : (if t419 = true then (if t392 = t409 then ((rubriclaw5_same.f t411 t412 t415 t404 t405 t408).bind fun t420 => (if t420 = true then (if t392 = t416 then ((rubriclaw5_Of.f t373 t374 t377).bind fun bt421 => ((rubriclaw5_Of.f t380 t381 t384).bind fun bt426 => ((rubricref5_Cmp.f kj10 bt421.1 bt421.2.1 bt421.2.2 bt426.1 bt426.2.1 bt426.2.2).bind fun t431 => (if t418 = t431 then ((dec_Cmp.f kj10 t380 t381 t384 t373 t374 t377).bind fun t432 => (if t432 = (wrap64 (-t418)) then ((G.dec_Dec_Text.f t373 t374 t377).bind fun t433 => ((G.dec_Dec_Text.f t380 t381 t384).bind fun t434 => (if ((t418 == 0) == (t433.toList == t434.toList)) = true then ((dec_Dec_Right.f kj10 t387 t388 t391).bind fun t435 => (some t435)) else (some false)))) else (some false))) else (some false))))) else (some false)) else (some false))) else (some false)) else (some false)) = some r := H
        have A29 := Aside0.mk A290
        clear A290
        by_cases c30 : t419 = true
        ·subst c30
         have H1 : (if t392 = t409 then ((rubriclaw5_same.f t411 t412 t415 t404 t405 t408).bind fun t420 => (if t420 = true then (if t392 = t416 then ((rubriclaw5_Of.f t373 t374 t377).bind fun bt421 => ((rubriclaw5_Of.f t380 t381 t384).bind fun bt426 => ((rubricref5_Cmp.f kj10 bt421.1 bt421.2.1 bt421.2.2 bt426.1 bt426.2.1 bt426.2.2).bind fun t431 => (if t418 = t431 then ((dec_Cmp.f kj10 t380 t381 t384 t373 t374 t377).bind fun t432 => (if t432 = (wrap64 (-t418)) then ((G.dec_Dec_Text.f t373 t374 t377).bind fun t433 => ((G.dec_Dec_Text.f t380 t381 t384).bind fun t434 => (if ((t418 == 0) == (t433.toList == t434.toList)) = true then ((dec_Dec_Right.f kj10 t387 t388 t391).bind fun t435 => (some t435)) else (some false)))) else (some false))) else (some false))))) else (some false)) else (some false))) else (some false)) = some r := by rw [if_pos rfl] at H; exact H
         clear H
         have H := H1
         clear H1
         by_cases c31 : t392 = t409
         ·rw [if_pos c31] at H
          have c31b0 : (t392 == t409) = true := beq_iff_eq.mpr c31
          have c31b1 : (t392 != t409) = false := bne_eq_false_iff_eq.mpr c31
          clear c31
          replace H := Option.bind_eq_some_iff.mp H
          obtain ⟨t420, A320, H⟩ := H
          replace H : (if t420 = true then (if t392 = t416 then ((rubriclaw5_Of.f t373 t374 t377).bind fun bt421 => ((rubriclaw5_Of.f t380 t381 t384).bind fun bt426 => ((rubricref5_Cmp.f kj10 bt421.1 bt421.2.1 bt421.2.2 bt426.1 bt426.2.1 bt426.2.2).bind fun t431 => (if t418 = t431 then ((dec_Cmp.f kj10 t380 t381 t384 t373 t374 t377).bind fun t432 => (if t432 = (wrap64 (-t418)) then ((G.dec_Dec_Text.f t373 t374 t377).bind fun t433 => ((G.dec_Dec_Text.f t380 t381 t384).bind fun t434 => (if ((t418 == 0) == (t433.toList == t434.toList)) = true then ((dec_Dec_Right.f kj10 t387 t388 t391).bind fun t435 => (some t435)) else (some false)))) else (some false))) else (some false))))) else (some false)) else (some false)) = some r := H
          have A32 := Aside0.mk A320
          clear A320
          by_cases c33 : t420 = true
          ·subst c33
           have H1 : (if t392 = t416 then ((rubriclaw5_Of.f t373 t374 t377).bind fun bt421 => ((rubriclaw5_Of.f t380 t381 t384).bind fun bt426 => ((rubricref5_Cmp.f kj10 bt421.1 bt421.2.1 bt421.2.2 bt426.1 bt426.2.1 bt426.2.2).bind fun t431 => (if t418 = t431 then ((dec_Cmp.f kj10 t380 t381 t384 t373 t374 t377).bind fun t432 => (if t432 = (wrap64 (-t418)) then ((G.dec_Dec_Text.f t373 t374 t377).bind fun t433 => ((G.dec_Dec_Text.f t380 t381 t384).bind fun t434 => (if ((t418 == 0) == (t433.toList == t434.toList)) = true then ((dec_Dec_Right.f kj10 t387 t388 t391).bind fun t435 => (some t435)) else (some false)))) else (some false))) else (some false))))) else (some false)) = some r := by rw [if_pos rfl] at H; exact H
           clear H
           have H := H1
           clear H1
           by_cases c34 : t392 = t416
           ·rw [if_pos c34] at H
            have c34b0 : (t392 == t416) = true := beq_iff_eq.mpr c34
            have c34b1 : (t392 != t416) = false := bne_eq_false_iff_eq.mpr c34
            clear c34
            replace H := Option.bind_eq_some_iff.mp H
            obtain ⟨⟨t421, t422, t425⟩, A350, H⟩ := H
            replace H : ((rubriclaw5_Of.f t380 t381 t384).bind fun bt426 => ((rubricref5_Cmp.f kj10 t421 t422 t425 bt426.1 bt426.2.1 bt426.2.2).bind fun t431 => (if t418 = t431 then ((dec_Cmp.f kj10 t380 t381 t384 t373 t374 t377).bind fun t432 => (if t432 = (wrap64 (-t418)) then ((G.dec_Dec_Text.f t373 t374 t377).bind fun t433 => ((G.dec_Dec_Text.f t380 t381 t384).bind fun t434 => (if ((t418 == 0) == (t433.toList == t434.toList)) = true then ((dec_Dec_Right.f kj10 t387 t388 t391).bind fun t435 => (some t435)) else (some false)))) else (some false))) else (some false)))) = some r := H
            have A35 := Aside0.mk A350
            clear A350
            replace H := Option.bind_eq_some_iff.mp H
            obtain ⟨⟨t426, t427, t430⟩, A360, H⟩ := H
            replace H : ((rubricref5_Cmp.f kj10 t421 t422 t425 t426 t427 t430).bind fun t431 => (if t418 = t431 then ((dec_Cmp.f kj10 t380 t381 t384 t373 t374 t377).bind fun t432 => (if t432 = (wrap64 (-t418)) then ((G.dec_Dec_Text.f t373 t374 t377).bind fun t433 => ((G.dec_Dec_Text.f t380 t381 t384).bind fun t434 => (if ((t418 == 0) == (t433.toList == t434.toList)) = true then ((dec_Dec_Right.f kj10 t387 t388 t391).bind fun t435 => (some t435)) else (some false)))) else (some false))) else (some false))) = some r := H
            have A36 := Aside0.mk A360
            clear A360
            replace H := Option.bind_eq_some_iff.mp H
            obtain ⟨t431, A370, H⟩ := H
            replace H : (if t418 = t431 then ((dec_Cmp.f kj10 t380 t381 t384 t373 t374 t377).bind fun t432 => (if t432 = (wrap64 (-t418)) then ((G.dec_Dec_Text.f t373 t374 t377).bind fun t433 => ((G.dec_Dec_Text.f t380 t381 t384).bind fun t434 => (if ((t418 == 0) == (t433.toList == t434.toList)) = true then ((dec_Dec_Right.f kj10 t387 t388 t391).bind fun t435 => (some t435)) else (some false)))) else (some false))) else (some false)) = some r := H
            have A37 := Aside0.mk A370
            clear A370
            by_cases c38 : t418 = t431
            ·rw [if_pos c38] at H
             have c38b0 : (t418 == t431) = true := beq_iff_eq.mpr c38
             have c38b1 : (t418 != t431) = false := bne_eq_false_iff_eq.mpr c38
             clear c38
             replace H := Option.bind_eq_some_iff.mp H
             obtain ⟨t432, A390, H⟩ := H
             replace H : (if t432 = (wrap64 (-t418)) then ((G.dec_Dec_Text.f t373 t374 t377).bind fun t433 => ((G.dec_Dec_Text.f t380 t381 t384).bind fun t434 => (if ((t418 == 0) == (t433.toList == t434.toList)) = true then ((dec_Dec_Right.f kj10 t387 t388 t391).bind fun t435 => (some t435)) else (some false)))) else (some false)) = some r := H
             have A39 := Aside0.mk A390
             clear A390
             by_cases c40 : t432 = (wrap64 (-t418))
             ·rw [if_pos c40] at H
              have c40b0 : (t432 == (wrap64 (-t418))) = true := beq_iff_eq.mpr c40
              have c40b1 : (t432 != (wrap64 (-t418))) = false := bne_eq_false_iff_eq.mpr c40
              clear c40
              replace H := Option.bind_eq_some_iff.mp H
              obtain ⟨t433, A410, H⟩ := H
              replace H : ((G.dec_Dec_Text.f t380 t381 t384).bind fun t434 => (if ((t418 == 0) == (t433.toList == t434.toList)) = true then ((dec_Dec_Right.f kj10 t387 t388 t391).bind fun t435 => (some t435)) else (some false))) = some r := H
              have A41 := Aside0.mk A410
              clear A410
              replace H := Option.bind_eq_some_iff.mp H
              obtain ⟨t434, A420, H⟩ := H
              replace H : (if ((t418 == 0) == (t433.toList == t434.toList)) = true then ((dec_Dec_Right.f kj10 t387 t388 t391).bind fun t435 => (some t435)) else (some false)) = some r := H
              have A42 := Aside0.mk A420
              clear A420
              by_cases c43 : ((t418 == 0) == (t433.toList == t434.toList)) = true
              ·rw [if_pos c43] at H
               have c43b0 : ((t418 == 0) == (t433.toList == t434.toList)) = true := c43
               (try (have c43b1 : decide ((t418 == 0) = (t433.toList == t434.toList)) = true := by simpa using c43))
               (try (have c43b2 : ((t418 == 0) == (t433.toList == t434.toList)) = true := by simpa using c43))
               clear c43
               replace H := Option.bind_eq_some_iff.mp H
               obtain ⟨t435, A440, H⟩ := H
               replace H : (some t435) = some r := H
               have A44 := Aside0.mk A440
               clear A440
               obtain rfl := Option.some.inj H
               have hnb45 := NB379_386.out
               have hnc45 := NB386_379.out
               have hcz46_0 : wc.cell? ⟨gb379, 0, none⟩ = some (.bool t373) := (blk_cell BK379.out 0).trans rfl
               have hcz46_1 : wc.cell? ⟨gb379, 1, none⟩ = some (.slice Ao15 t374.length co15) := (blk_cell BK379.out 1).trans rfl
               have hcz46_2 : wc.cell? ⟨gb379, 2, none⟩ = some (.int .i64 t377) := (blk_cell BK379.out 2).trans rfl
               have hfz46_0 := blk_frozen BK379.out 0
               have hfz46_1 := blk_frozen BK379.out 1
               have hfz46_2 := blk_frozen BK379.out 2
               have hcz47_0 : wc.cell? ⟨gb386, 0, none⟩ = some (.bool t380) := (blk_cell BK386.out 0).trans rfl
               have hcz47_1 : wc.cell? ⟨gb386, 1, none⟩ = some (.slice Ao20 t381.length co20) := (blk_cell BK386.out 1).trans rfl
               have hcz47_2 : wc.cell? ⟨gb386, 2, none⟩ = some (.int .i64 t384) := (blk_cell BK386.out 2).trans rfl
               have hfz47_0 := blk_frozen BK386.out 0
               have hfz47_1 := blk_frozen BK386.out 1
               have hfz47_2 := blk_frozen BK386.out 2
               try go_wp2_with (first | ((with_reducible refine gate_callee (f := 12) rfl ?_); refine goesL_ (some 45) rfl rfl Try.func12 (by kernel_rfl) rfl #[.agg #[.bool t373, .slice Ao15 t374.length co15, .int .i64 t377], .agg #[.bool t380, .slice Ao20 t381.length co20, .int .i64 t384]] rfl (by (try simp only [List.map_toArray, List.map_cons, List.map_nil]); first | done | rfl | (simp only [List.length_drop, List.length_take]; rfl)) ?_; (with_reducible refine (dec_Add.calls kj10 t373 (fun k_ => (k_ ≠ gb379 ∧ k_ ≠ gb386)) _ _ t374 t377 t380 (fun k_ => (k_ ≠ gb379 ∧ k_ ≠ gb386)) _ _ t381 t384 t387 t388 t391 t392 _ ?side1 ?side2 A23.out).mono ?_); (case side1 => exact HO_380001.out); (case side2 => exact HO_387001.out); rintro e w48 ⟨v389, rfl, ho0, hb⟩; refine ⟨_, rfl, ?_⟩; have n0_ := Aside0.mk (Kd.V_below (S.v HO_380001.out) hb); have n1_ := Aside0.mk (Kd.V_below (S.v HO_387001.out) hb); have n2_ := Aside0.mk (Kd.V_lower (Kd.V_mono (ok' := fun k_ => k_ ≠ gb379 ∧ k_ ≠ gb386) ho0 (fun k_ hk_ => ⟨Or.elim hk_ (fun hs_ => Or.elim hs_ (fun hs_ => hs_.1) (fun hs_ => hs_.1)) (fun hn_ => (Kd.freshB (g := gb379) (o := .cells #[.bool t373, .slice Ao15 t374.length co15, .int .i64 t377] 25 (0, 0)) (S.b BK379.out) k_ hn_)), Or.elim hk_ (fun hs_ => Or.elim hs_ (fun hs_ => hs_.2) (fun hs_ => hs_.2)) (fun hn_ => (Kd.freshB (g := gb386) (o := .cells #[.bool t380, .slice Ao20 t381.length co20, .int .i64 t384] 25 (0, 0)) (S.b BK386.out) k_ hn_))⟩)) (below_size (by repeat (first | (with_reducible first | exact HB.out | apply below_alloc | apply pw_below_drewN | apply below_drew1 | refine below_set ?_ GE379.out | refine below_set ?_ GE386.out) | exact HB.out)))); have n3_ := Aside0.mk (blk_below (g := gb379) (o := .cells #[.bool t373, .slice Ao15 t374.length co15, .int .i64 t377] 25 (0, 0)) (S.b BK379.out) hb); have n4_ := Aside0.mk (blk_below (g := gb386) (o := .cells #[.bool t380, .slice Ao20 t381.length co20, .int .i64 t384] 25 (0, 0)) (S.b BK386.out) hb); have n5_ := Aside0.mk (below_step (by repeat (first | (with_reducible first | exact HB.out | apply below_alloc | apply pw_below_drewN | apply below_drew1 | refine below_set ?_ GE379.out | refine below_set ?_ GE386.out) | exact HB.out)) hb); clear HO_380001; clear HO_387001; clear BK379; clear BK386; clear HB; have HO_380001 := n0_; have HO_387001 := n1_; have HO390 := n2_; have BK379 := n3_; have BK386 := n4_; have HB := n5_; clear n0_ n1_ n2_ n3_ n4_ n5_; (try clear hb); (try clear hb2); (try clear hk); (try clear hi); (try clear ho0)) | ((with_reducible refine gate_dst (N := 9) rfl ?_); (try (refine gate_guard (by rfl) ?_; dsimp only)); refine box_event ?hg (N := 9) ?hd (cs := #[.bool false, .slice none 0 0, .int .i64 0]) (t := 25) ?hr ?_; (case hd => rfl); (case hg => rfl); (case hr => first | (go_simp; done) | (go_simp; rfl)); intro gb393 hg w49 hbox hb; have n0_ := Aside0.mk (Kd.V_below (Kd.V_elderB (S.v HO_380001.out) gb393 (Nat.le_of_eq hg.symm)) hb); have n1_ := Aside0.mk (Kd.V_below (Kd.V_elderB (S.v HO_387001.out) gb393 (Nat.le_of_eq hg.symm)) hb); have n2_ := Aside0.mk (Kd.V_below (Kd.V_elderB (S.v HO390.out) gb393 (Nat.le_of_eq hg.symm)) hb); have n3_ := Aside0.mk (blk_below (g := gb379) (o := .cells #[.bool t373, .slice Ao15 t374.length co15, .int .i64 t377] 25 (0, 0)) (S.b BK379.out) hb); have n4_ := Aside0.mk (blk_below (g := gb386) (o := .cells #[.bool t380, .slice Ao20 t381.length co20, .int .i64 t384] 25 (0, 0)) (S.b BK386.out) hb); have n5_ := Aside0.mk (below_step (by repeat (first | (with_reducible first | exact HB.out | apply below_alloc | apply pw_below_drewN | apply below_drew1 | refine below_set ?_ GE379.out | refine below_set ?_ GE386.out) | exact HB.out)) hb); have n6_ := Aside0.mk (hbox); have n7_ := Aside0.mk ((by rw [hg]; exact (below_size (by repeat (first | (with_reducible first | exact HB.out | apply below_alloc | apply pw_below_drewN | apply below_drew1 | refine below_set ?_ GE379.out | refine below_set ?_ GE386.out) | exact HB.out))) : w.heap.size ≤ gb393)); have n8_ := Aside0.mk ((by rw [hg]; exact (below_size (by repeat (first | (with_reducible first | exact HB.out | apply below_alloc | apply pw_below_drewN | apply below_drew1 | refine below_set ?_ GE379.out | refine below_set ?_ GE386.out) | exact HB.out))) : w.heap.size ≤ gb393)); have n9_ := Aside0.mk ((by rw [hg]; exact Nat.ne_of_lt (blk_lt (g := gb379) (o := .cells #[.bool t373, .slice Ao15 t374.length co15, .int .i64 t377] 25 (0, 0)) (S.b BK379.out)) : gb379 ≠ gb393)); have n10_ := Aside0.mk ((by rw [hg]; exact Nat.ne_of_gt (blk_lt (g := gb379) (o := .cells #[.bool t373, .slice Ao15 t374.length co15, .int .i64 t377] 25 (0, 0)) (S.b BK379.out)) : gb393 ≠ gb379)); have n11_ := Aside0.mk ((by rw [hg]; exact Nat.ne_of_lt (blk_lt (g := gb386) (o := .cells #[.bool t380, .slice Ao20 t381.length co20, .int .i64 t384] 25 (0, 0)) (S.b BK386.out)) : gb386 ≠ gb393)); have n12_ := Aside0.mk ((by rw [hg]; exact Nat.ne_of_gt (blk_lt (g := gb386) (o := .cells #[.bool t380, .slice Ao20 t381.length co20, .int .i64 t384] 25 (0, 0)) (S.b BK386.out)) : gb393 ≠ gb386)); clear HO_380001; clear HO_387001; clear HO390; clear BK379; clear BK386; clear HB; have HO_380001 := n0_; have HO_387001 := n1_; have HO390 := n2_; have BK379 := n3_; have BK386 := n4_; have HB := n5_; have BK393 := n6_; have GW393 := n7_; have GE393 := n8_; have NB379_393 := n9_; have NB393_379 := n10_; have NB386_393 := n11_; have NB393_386 := n12_; clear n0_ n1_ n2_ n3_ n4_ n5_ n6_ n7_ n8_ n9_ n10_ n11_ n12_; clear hb hbox hg; have hnb50 := NB393_379.out; have hnc50 := NB379_393.out; have hnb51 := NB393_386.out; have hnc51 := NB386_393.out; have hcz52_0 : w49.cell? ⟨gb393, 0, none⟩ = some (.bool false) := (blk_cell BK393.out 0).trans rfl; have hcz52_1 : w49.cell? ⟨gb393, 1, none⟩ = some (.slice none 0 0) := (blk_cell BK393.out 1).trans rfl; have hcz52_2 : w49.cell? ⟨gb393, 2, none⟩ = some (.int .i64 0) := (blk_cell BK393.out 2).trans rfl; have hfz52_0 := blk_frozen BK393.out 0; have hfz52_1 := blk_frozen BK393.out 1; have hfz52_2 := blk_frozen BK393.out 2; obtain ⟨Ao53, co53, eo53⟩ := Kd.V_slice HO390.out; subst eo53))
               have n0_ : Aside0 (Kd.V (Kd.int .u8) 5 (((w49.setCell ⟨gb393, 0, none⟩ (.bool t387)).setCell ⟨gb393, 1, none⟩ (.slice Ao53 t388.length co53)).setCell ⟨gb393, 2, none⟩ (.int .i64 t391)) w.heap.size (fun k_ => k_ ≠ gb379 ∧ k_ ≠ gb386 ∧ k_ ≠ gb393) (.slice Ao15 t374.length co15) t374) := ⟨by (with_reducible repeat (first | apply Kd.V_alloc | apply Kd.V_drewN | apply Kd.V_drew)); exact Kd.V_mono (Kd.V_far (p := ⟨gb393, 2, none⟩) (Kd.V_far (p := ⟨gb393, 1, none⟩) (Kd.V_far (p := ⟨gb393, 0, none⟩) (Kd.V_mono HO_380001.out (fun k_ hk => (⟨hk, hk.2⟩ : _ ∧ k_ ≠ gb393))) (fun _ hk => hk.2) (.bool t387)) (fun _ hk => hk.2) (.slice Ao53 t388.length co53)) (fun _ hk => hk.2) (.int .i64 t391)) (fun _ hk => ⟨hk.1.1.1, ⟨hk.1.1.2, hk.1.2⟩⟩)⟩
               have n1_ : Aside0 (Kd.V (Kd.int .u8) 5 (((w49.setCell ⟨gb393, 0, none⟩ (.bool t387)).setCell ⟨gb393, 1, none⟩ (.slice Ao53 t388.length co53)).setCell ⟨gb393, 2, none⟩ (.int .i64 t391)) w.heap.size (fun k_ => k_ ≠ gb379 ∧ k_ ≠ gb386 ∧ k_ ≠ gb393) (.slice Ao20 t381.length co20) t381) := ⟨by (with_reducible repeat (first | apply Kd.V_alloc | apply Kd.V_drewN | apply Kd.V_drew)); exact Kd.V_mono (Kd.V_far (p := ⟨gb393, 2, none⟩) (Kd.V_far (p := ⟨gb393, 1, none⟩) (Kd.V_far (p := ⟨gb393, 0, none⟩) (Kd.V_mono HO_387001.out (fun k_ hk => (⟨hk, hk.2⟩ : _ ∧ k_ ≠ gb393))) (fun _ hk => hk.2) (.bool t387)) (fun _ hk => hk.2) (.slice Ao53 t388.length co53)) (fun _ hk => hk.2) (.int .i64 t391)) (fun _ hk => ⟨hk.1.1.1, ⟨hk.1.1.2, hk.1.2⟩⟩)⟩
               have n2_ : Aside0 (Kd.V (Kd.int .u8) 5 (((w49.setCell ⟨gb393, 0, none⟩ (.bool t387)).setCell ⟨gb393, 1, none⟩ (.slice Ao53 t388.length co53)).setCell ⟨gb393, 2, none⟩ (.int .i64 t391)) w.heap.size (fun k_ => k_ ≠ gb379 ∧ k_ ≠ gb386 ∧ k_ ≠ gb393) (.slice Ao53 t388.length co53) t388) := ⟨by (with_reducible repeat (first | apply Kd.V_alloc | apply Kd.V_drewN | apply Kd.V_drew)); exact Kd.V_mono (Kd.V_far (p := ⟨gb393, 2, none⟩) (Kd.V_far (p := ⟨gb393, 1, none⟩) (Kd.V_far (p := ⟨gb393, 0, none⟩) (Kd.V_mono HO390.out (fun k_ hk => (⟨hk, hk.2⟩ : _ ∧ k_ ≠ gb393))) (fun _ hk => hk.2) (.bool t387)) (fun _ hk => hk.2) (.slice Ao53 t388.length co53)) (fun _ hk => hk.2) (.int .i64 t391)) (fun _ hk => ⟨hk.1.1.1, ⟨hk.1.1.2, hk.1.2⟩⟩)⟩
               have n3_ : Aside0 ((((w49.setCell ⟨gb393, 0, none⟩ (.bool t387)).setCell ⟨gb393, 1, none⟩ (.slice Ao53 t388.length co53)).setCell ⟨gb393, 2, none⟩ (.int .i64 t391)).heap[gb379]? = some (.cells #[.bool t373, .slice Ao15 t374.length co15, .int .i64 t377] 25 (0, 0))) := ⟨by (with_reducible repeat (first | refine blk_drewN ?_ _ | refine blk_drew ?_ | refine blk_alloc ?_ _)); refine blk_far ?_ NB379_393.out _; (with_reducible repeat (first | refine blk_drewN ?_ _ | refine blk_drew ?_ | refine blk_alloc ?_ _)); refine blk_far ?_ NB379_393.out _; (with_reducible repeat (first | refine blk_drewN ?_ _ | refine blk_drew ?_ | refine blk_alloc ?_ _)); refine blk_far ?_ NB379_393.out _; (with_reducible repeat (first | refine blk_drewN ?_ _ | refine blk_drew ?_ | refine blk_alloc ?_ _)); exact BK379.out⟩
               have n4_ : Aside0 ((((w49.setCell ⟨gb393, 0, none⟩ (.bool t387)).setCell ⟨gb393, 1, none⟩ (.slice Ao53 t388.length co53)).setCell ⟨gb393, 2, none⟩ (.int .i64 t391)).heap[gb386]? = some (.cells #[.bool t380, .slice Ao20 t381.length co20, .int .i64 t384] 25 (0, 0))) := ⟨by (with_reducible repeat (first | refine blk_drewN ?_ _ | refine blk_drew ?_ | refine blk_alloc ?_ _)); refine blk_far ?_ NB386_393.out _; (with_reducible repeat (first | refine blk_drewN ?_ _ | refine blk_drew ?_ | refine blk_alloc ?_ _)); refine blk_far ?_ NB386_393.out _; (with_reducible repeat (first | refine blk_drewN ?_ _ | refine blk_drew ?_ | refine blk_alloc ?_ _)); refine blk_far ?_ NB386_393.out _; (with_reducible repeat (first | refine blk_drewN ?_ _ | refine blk_drew ?_ | refine blk_alloc ?_ _)); exact BK386.out⟩
               have n5_ : Aside0 ((((w49.setCell ⟨gb393, 0, none⟩ (.bool t387)).setCell ⟨gb393, 1, none⟩ (.slice Ao53 t388.length co53)).setCell ⟨gb393, 2, none⟩ (.int .i64 t391)).heap[gb393]? = some (.cells #[.bool t387, .slice Ao53 t388.length co53, .int .i64 t391] 25 (0, 0))) := ⟨by (with_reducible repeat (first | refine blk_drewN ?_ _ | refine blk_drew ?_ | refine blk_alloc ?_ _)); refine blk_put (cs := #[.bool t387, .slice Ao53 t388.length co53, .int .i64 0]) ?_ 2 _ rfl; (with_reducible repeat (first | refine blk_drewN ?_ _ | refine blk_drew ?_ | refine blk_alloc ?_ _)); refine blk_put (cs := #[.bool t387, .slice none 0 0, .int .i64 0]) ?_ 1 _ rfl; (with_reducible repeat (first | refine blk_drewN ?_ _ | refine blk_drew ?_ | refine blk_alloc ?_ _)); refine blk_put (cs := #[.bool false, .slice none 0 0, .int .i64 0]) ?_ 0 _ rfl; (with_reducible repeat (first | refine blk_drewN ?_ _ | refine blk_drew ?_ | refine blk_alloc ?_ _)); exact BK393.out⟩
               have n6_ : Aside0 (Below w.heap.size w (((w49.setCell ⟨gb393, 0, none⟩ (.bool t387)).setCell ⟨gb393, 1, none⟩ (.slice Ao53 t388.length co53)).setCell ⟨gb393, 2, none⟩ (.int .i64 t391))) := ⟨by repeat (first | (with_reducible first | exact HB.out | apply below_alloc | apply pw_below_drewN | apply below_drew1 | refine below_set ?_ GE379.out | refine below_set ?_ GE386.out | refine below_set ?_ GE393.out) | exact HB.out)⟩
               (try clear HO_380001)
               (try clear HO_387001)
               (try clear HO390)
               (try clear BK379)
               (try clear BK386)
               (try clear BK393)
               (try clear HB)
               generalize (((w49.setCell ⟨gb393, 0, none⟩ (.bool t387)).setCell ⟨gb393, 1, none⟩ (.slice Ao53 t388.length co53)).setCell ⟨gb393, 2, none⟩ (.int .i64 t391)) = w54 at n0_ n1_ n2_ n3_ n4_ n5_ n6_ ⊢
               have HO_380001 := n0_
               have HO_387001 := n1_
               have HO390 := n2_
               have BK379 := n3_
               have BK386 := n4_
               have BK393 := n5_
               have HB := n6_
               clear n0_ n1_ n2_ n3_ n4_ n5_ n6_
               have n0_ := Aside0.mk (Kd.V_drew HO_380001.out)
               have n1_ := Aside0.mk (Kd.V_drew HO_387001.out)
               have n2_ := Aside0.mk (Kd.V_drew HO390.out)
               have n3_ := Aside0.mk (blk_drew BK379.out)
               have n4_ := Aside0.mk (blk_drew BK386.out)
               have n5_ := Aside0.mk (blk_drew BK393.out)
               have n6_ := Aside0.mk (below_drew1 HB.out)
               clear HO_380001
               clear HO_387001
               clear HO390
               clear BK379
               clear BK386
               clear BK393
               clear HB
               have HO_380001 := n0_
               have HO_387001 := n1_
               have HO390 := n2_
               have BK379 := n3_
               have BK386 := n4_
               have BK393 := n5_
               have HB := n6_
               clear n0_ n1_ n2_ n3_ n4_ n5_ n6_
               refine start_ (n := 11) (S := fun w' => w'.cell? ⟨gb379, 0, none⟩ = some (.bool t373) ∧ w'.cell? ⟨gb379, 1, none⟩ = some (.slice Ao15 t374.length co15) ∧ w'.cell? ⟨gb379, 2, none⟩ = some (.int .i64 t377) ∧ w'.cell? ⟨gb386, 0, none⟩ = some (.bool t380) ∧ w'.cell? ⟨gb386, 1, none⟩ = some (.slice Ao20 t381.length co20) ∧ w'.cell? ⟨gb386, 2, none⟩ = some (.int .i64 t384)) (ds := []) #[false, false, false, false, false, false, false, false, false, false, false] (by kernel_rfl) rfl rfl ⟨(blk_cell BK379.out 0).trans rfl, (blk_cell BK379.out 1).trans rfl, (blk_cell BK379.out 2).trans rfl, (blk_cell BK386.out 0).trans rfl, (blk_cell BK386.out 1).trans rfl, (blk_cell BK386.out 2).trans rfl⟩ (fun hHeld => ?_); refine with_tabW rubriclaw5_DecPairs.tab10 rubriclaw5_DecPairs.bits10 (fun HT_ HW_ => ?_)
               generalize w54.drew = w55 at HO_380001 HO_387001 HO390 BK379 BK386 BK393 HB hHeld ⊢
               refine take_ (i := 0) (N := some 49) (v := ?_) (a' := ?_) #[true, false, false, false, false, false, false, false, false, false, false] rfl rfl (take_ofW HT_.out HW_.out (by kernel_rfl)) (fun _ _ _ h => h) (Or.inl ⟨by rfl, ?_⟩) hHeld ?_ ?_
               rotate_left
               ·rintro w' ⟨s0, s1, s2, s3, s4, s5⟩
                go_simp
                with_reducible rfl
               rotate_left
               ·simp only [Act.put, List.setIfInBounds_toArray, List.set_cons_zero, List.set_cons_succ, i64_w, i32_w]
                rfl
               refine take_ (i := 2) (N := some 51) (v := ?_) (a' := ?_) #[true, false, true, false, false, false, false, false, false, false, false] rfl rfl (take_ofW HT_.out HW_.out (by kernel_rfl)) (fun _ _ _ h => h) (Or.inl ⟨by rfl, ?_⟩) hHeld ?_ ?_
               rotate_left
               ·rintro w' ⟨s0, s1, s2, s3, s4, s5⟩
                go_simp
                with_reducible rfl
               rotate_left
               ·simp only [Act.put, List.setIfInBounds_toArray, List.set_cons_zero, List.set_cons_succ, i64_w, i32_w]
                rfl
               refine join_ (σ := Value × Value × Value × Nat) 2 #[true, true, true, true, true, true, true, true, true, false, false] (fun s_ => [(50, .agg #[.bool t394, s_.1, .int .i64 t398]), (52, .agg #[.bool t399, s_.2.1, .int .i64 t403]), (53, .tuple #[.agg #[.bool t404, s_.2.2.1, .int .i64 t408], .int .i64 t409]), (11, .pointer (some ⟨s_.2.2.2, 0, none⟩)), (48, .tuple #[.agg #[.bool t404, s_.2.2.1, .int .i64 t408], .int .i64 t409]), (54, .agg #[.bool t404, s_.2.2.1, .int .i64 t408]), (55, .int .i64 t409)]) (fun s_ w' => (w'.cell? ⟨gb379, 0, none⟩ = some (.bool t373) ∧ w'.cell? ⟨gb379, 1, none⟩ = some (.slice Ao15 t374.length co15) ∧ w'.cell? ⟨gb379, 2, none⟩ = some (.int .i64 t377) ∧ w'.cell? ⟨gb386, 0, none⟩ = some (.bool t380) ∧ w'.cell? ⟨gb386, 1, none⟩ = some (.slice Ao20 t381.length co20) ∧ w'.cell? ⟨gb386, 2, none⟩ = some (.int .i64 t384)) ∧ (Kd.V (Kd.int .u8) 5 w' w.heap.size (fun k_ => some k_ ≠ (s_.2.2.1 : Value).ownBlock ∧ k_ ≠ gb379 ∧ k_ ≠ gb386 ∧ k_ ≠ gb393 ∧ k_ ≠ s_.2.2.2) (.slice Ao53 t388.length co53) t388) ∧ (Kd.V (Kd.int .u8) 5 w' w.heap.size (fun k_ => some k_ ≠ (s_.2.2.1 : Value).ownBlock ∧ k_ ≠ gb379 ∧ k_ ≠ gb386 ∧ k_ ≠ gb393 ∧ k_ ≠ s_.2.2.2) s_.1 t395) ∧ (Kd.V (Kd.int .u8) 5 w' w.heap.size (fun k_ => some k_ ≠ (s_.2.2.1 : Value).ownBlock ∧ k_ ≠ gb379 ∧ k_ ≠ gb386 ∧ k_ ≠ gb393 ∧ k_ ≠ s_.2.2.2) s_.2.1 t400) ∧ (Kd.R (Kd.int .u8) 5 w' w.heap.size (fun _ => True) s_.2.2.1 t405) ∧ (Kd.V (Kd.int .u8) 5 w' w.heap.size (fun k_ => some k_ ≠ (s_.2.2.1 : Value).ownBlock ∧ k_ ≠ gb379 ∧ k_ ≠ gb386 ∧ k_ ≠ gb393 ∧ k_ ≠ s_.2.2.2) (.slice Ao15 t374.length co15) t374) ∧ (Kd.V (Kd.int .u8) 5 w' w.heap.size (fun k_ => some k_ ≠ (s_.2.2.1 : Value).ownBlock ∧ k_ ≠ gb379 ∧ k_ ≠ gb386 ∧ k_ ≠ gb393 ∧ k_ ≠ s_.2.2.2) (.slice Ao20 t381.length co20) t381) ∧ (w'.heap[gb379]? = some (.cells #[.bool t373, .slice Ao15 t374.length co15, .int .i64 t377] 25 (0, 0))) ∧ (w'.heap[gb386]? = some (.cells #[.bool t380, .slice Ao20 t381.length co20, .int .i64 t384] 25 (0, 0))) ∧ (w'.heap[gb393]? = some (.cells #[.bool t387, .slice Ao53 t388.length co53, .int .i64 t391] 25 (0, 0))) ∧ (w'.heap[s_.2.2.2]? = some (.cells #[.bool false, .slice none 0 0, .int .i64 0] 36 (0, 0))) ∧ (w.heap.size ≤ s_.2.2.2) ∧ (w.heap.size ≤ s_.2.2.2) ∧ (gb379 ≠ s_.2.2.2) ∧ (s_.2.2.2 ≠ gb379) ∧ (gb386 ≠ s_.2.2.2) ∧ (s_.2.2.2 ≠ gb386) ∧ (gb393 ≠ s_.2.2.2) ∧ (s_.2.2.2 ≠ gb393) ∧ (Below w.heap.size w w')) ?_ ?_
               rotate_left
               ·intro hCont
                refine two_ (i := 1) (j := 8) (Ni := some 50) (Nj := some 11) #[true, true, true, false, false, false, false, false, false, false, false] #[true, false, true, false, false, false, false, false, true, false, false] rfl rfl rfl rfl (two_of HT_.out (by kernel_rfl)) (by decide) (by decide) (fun K hK => ?_) (fun K hK => ?_)
                ·skip
                 refine goes_ Try.func15 (by kernel_rfl) rfl #[.agg #[.bool t373, .slice Ao15 t374.length co15, .int .i64 t377]] (by rfl) rfl rfl (by (try simp only [List.map_toArray, List.map_cons, List.map_nil]); first | done | rfl | (simp only [List.length_drop, List.length_take]; rfl)) ?_
                 with_reducible refine (rubriclaw5_Of.calls t373 (fun k_ => (k_ ≠ gb379 ∧ (k_ ≠ gb386 ∧ k_ ≠ gb393))) _ _ t374 t377 t394 t395 t398 _ ?side1 A24.out).mono ?_
                 (case side1 => exact HO_380001.out)
                 rintro e w56 ⟨v396, rfl, ho0, hb⟩
                 refine ⟨_, rfl, ?_⟩
                 have n0_ := Aside0.mk (Kd.V_below (S.v HO_380001.out) hb)
                 have n1_ := Aside0.mk (Kd.V_below (S.v HO_387001.out) hb)
                 have n2_ := Aside0.mk (Kd.V_below (S.v HO390.out) hb)
                 have n3_ := Aside0.mk (Kd.V_lower (Kd.V_mono (ok' := fun k_ => k_ ≠ gb379 ∧ k_ ≠ gb386 ∧ k_ ≠ gb393) ho0 (fun k_ hk_ => ⟨Or.elim hk_ (fun hs_ => hs_.1) (fun hn_ => (Kd.freshB (g := gb379) (o := .cells #[.bool t373, .slice Ao15 t374.length co15, .int .i64 t377] 25 (0, 0)) (S.b BK379.out) k_ hn_)), Or.elim hk_ (fun hs_ => hs_.2.1) (fun hn_ => (Kd.freshB (g := gb386) (o := .cells #[.bool t380, .slice Ao20 t381.length co20, .int .i64 t384] 25 (0, 0)) (S.b BK386.out) k_ hn_)), Or.elim hk_ (fun hs_ => hs_.2.2) (fun hn_ => (Kd.freshB (g := gb393) (o := .cells #[.bool t387, .slice Ao53 t388.length co53, .int .i64 t391] 25 (0, 0)) (S.b BK393.out) k_ hn_))⟩)) (below_size (by repeat (first | (with_reducible first | exact HB.out | apply below_alloc | apply pw_below_drewN | apply below_drew1 | refine below_set ?_ GE379.out | refine below_set ?_ GE386.out | refine below_set ?_ GE393.out) | exact HB.out))))
                 have n4_ := Aside0.mk (blk_below (g := gb379) (o := .cells #[.bool t373, .slice Ao15 t374.length co15, .int .i64 t377] 25 (0, 0)) (S.b BK379.out) hb)
                 have n5_ := Aside0.mk (blk_below (g := gb386) (o := .cells #[.bool t380, .slice Ao20 t381.length co20, .int .i64 t384] 25 (0, 0)) (S.b BK386.out) hb)
                 have n6_ := Aside0.mk (blk_below (g := gb393) (o := .cells #[.bool t387, .slice Ao53 t388.length co53, .int .i64 t391] 25 (0, 0)) (S.b BK393.out) hb)
                 have n7_ := Aside0.mk (below_step (by repeat (first | (with_reducible first | exact HB.out | apply below_alloc | apply pw_below_drewN | apply below_drew1 | refine below_set ?_ GE379.out | refine below_set ?_ GE386.out | refine below_set ?_ GE393.out) | exact HB.out)) hb)
                 clear HO_380001
                 clear HO_387001
                 clear HO390
                 clear BK379
                 clear BK386
                 clear BK393
                 clear HB
                 have HO_380001 := n0_
                 have HO_387001 := n1_
                 have HO390 := n2_
                 have HO397 := n3_
                 have BK379 := n4_
                 have BK386 := n5_
                 have BK393 := n6_
                 have HB := n7_
                 clear n0_ n1_ n2_ n3_ n4_ n5_ n6_ n7_
                 (try clear hb)
                 (try clear hb2)
                 (try clear hk)
                 (try clear hi)
                 (try clear ho0)
                 refine hK.out _ _ ⟨(blk_cell BK379.out 0).trans rfl, (blk_cell BK379.out 1).trans rfl, (blk_cell BK379.out 2).trans rfl, (blk_cell BK386.out 0).trans rfl, (blk_cell BK386.out 1).trans rfl, (blk_cell BK386.out 2).trans rfl⟩ (fun hHeld => ?_)
                 clear hK K
                 refine norm_ (a' := ?_) ?_ ?_
                 rotate_left
                 ·show Act.put _ (some 50) _ = _
                  simp only [Act.put, List.setIfInBounds_toArray, List.set_cons_zero, List.set_cons_succ, i64_w, i32_w]
                  rfl
                 refine two_ (i := 3) (j := 8) (Ni := some 52) (Nj := some 11) #[true, true, true, true, false, false, false, false, false, false, false] #[true, true, true, false, false, false, false, false, true, false, false] rfl rfl rfl rfl (two_of HT_.out (by kernel_rfl)) (by decide) (by decide) (fun K hK => ?_) (fun K hK => ?_)
                 ·skip
                  refine goes_ Try.func15 (by kernel_rfl) rfl #[.agg #[.bool t380, .slice Ao20 t381.length co20, .int .i64 t384]] (by rfl) rfl rfl (by (try simp only [List.map_toArray, List.map_cons, List.map_nil]); first | done | rfl | (simp only [List.length_drop, List.length_take]; rfl)) ?_
                  with_reducible refine (rubriclaw5_Of.calls t380 (fun k_ => (k_ ≠ gb379 ∧ (k_ ≠ gb386 ∧ k_ ≠ gb393))) _ _ t381 t384 t399 t400 t403 _ ?side1 A25.out).mono ?_
                  (case side1 => exact HO_387001.out)
                  rintro e w57 ⟨v401, rfl, ho0, hb⟩
                  refine ⟨_, rfl, ?_⟩
                  have n0_ := Aside0.mk (Kd.V_below (S.v HO_380001.out) hb)
                  have n1_ := Aside0.mk (Kd.V_below (S.v HO_387001.out) hb)
                  have n2_ := Aside0.mk (Kd.V_below (S.v HO390.out) hb)
                  have n3_ := Aside0.mk (Kd.V_below (S.v HO397.out) hb)
                  have n4_ := Aside0.mk (Kd.V_lower (Kd.V_mono (ok' := fun k_ => k_ ≠ gb379 ∧ k_ ≠ gb386 ∧ k_ ≠ gb393) ho0 (fun k_ hk_ => ⟨Or.elim hk_ (fun hs_ => hs_.1) (fun hn_ => (Kd.freshB (g := gb379) (o := .cells #[.bool t373, .slice Ao15 t374.length co15, .int .i64 t377] 25 (0, 0)) (S.b BK379.out) k_ hn_)), Or.elim hk_ (fun hs_ => hs_.2.1) (fun hn_ => (Kd.freshB (g := gb386) (o := .cells #[.bool t380, .slice Ao20 t381.length co20, .int .i64 t384] 25 (0, 0)) (S.b BK386.out) k_ hn_)), Or.elim hk_ (fun hs_ => hs_.2.2) (fun hn_ => (Kd.freshB (g := gb393) (o := .cells #[.bool t387, .slice Ao53 t388.length co53, .int .i64 t391] 25 (0, 0)) (S.b BK393.out) k_ hn_))⟩)) (below_size (by repeat (first | (with_reducible first | exact HB.out | apply below_alloc | apply pw_below_drewN | apply below_drew1 | refine below_set ?_ GE379.out | refine below_set ?_ GE386.out | refine below_set ?_ GE393.out) | exact HB.out))))
                  have n5_ := Aside0.mk (blk_below (g := gb379) (o := .cells #[.bool t373, .slice Ao15 t374.length co15, .int .i64 t377] 25 (0, 0)) (S.b BK379.out) hb)
                  have n6_ := Aside0.mk (blk_below (g := gb386) (o := .cells #[.bool t380, .slice Ao20 t381.length co20, .int .i64 t384] 25 (0, 0)) (S.b BK386.out) hb)
                  have n7_ := Aside0.mk (blk_below (g := gb393) (o := .cells #[.bool t387, .slice Ao53 t388.length co53, .int .i64 t391] 25 (0, 0)) (S.b BK393.out) hb)
                  have n8_ := Aside0.mk (below_step (by repeat (first | (with_reducible first | exact HB.out | apply below_alloc | apply pw_below_drewN | apply below_drew1 | refine below_set ?_ GE379.out | refine below_set ?_ GE386.out | refine below_set ?_ GE393.out) | exact HB.out)) hb)
                  clear HO_380001
                  clear HO_387001
                  clear HO390
                  clear HO397
                  clear BK379
                  clear BK386
                  clear BK393
                  clear HB
                  have HO_380001 := n0_
                  have HO_387001 := n1_
                  have HO390 := n2_
                  have HO397 := n3_
                  have HO402 := n4_
                  have BK379 := n5_
                  have BK386 := n6_
                  have BK393 := n7_
                  have HB := n8_
                  clear n0_ n1_ n2_ n3_ n4_ n5_ n6_ n7_ n8_
                  (try clear hb)
                  (try clear hb2)
                  (try clear hk)
                  (try clear hi)
                  (try clear ho0)
                  obtain ⟨Ao58, co58, eo58⟩ := Kd.V_slice HO397.out
                  (first | subst eo58 | (injection eo58 with f1_ f2_ f3_; have f4_ := f1_.symm; have f5_ := f3_.symm; clear f1_ f2_ f3_; subst f4_; subst f5_))
                  obtain ⟨Ao59, co59, eo59⟩ := Kd.V_slice HO402.out
                  (first | subst eo59 | (injection eo59 with f1_ f2_ f3_; have f4_ := f1_.symm; have f5_ := f3_.symm; clear f1_ f2_ f3_; subst f4_; subst f5_))
                  refine hK.out _ _ ⟨(blk_cell BK379.out 0).trans rfl, (blk_cell BK379.out 1).trans rfl, (blk_cell BK379.out 2).trans rfl, (blk_cell BK386.out 0).trans rfl, (blk_cell BK386.out 1).trans rfl, (blk_cell BK386.out 2).trans rfl⟩ (fun hHeld => ?_)
                  clear hK K
                  refine norm_ (a' := ?_) ?_ ?_
                  rotate_left
                  ·show Act.put _ (some 52) _ = _
                   simp only [Act.put, List.setIfInBounds_toArray, List.set_cons_zero, List.set_cons_succ, i64_w, i32_w]
                   rfl
                  refine two_ (i := 4) (j := 8) (Ni := some 53) (Nj := some 11) #[true, true, true, true, true, false, false, false, false, false, false] #[true, true, true, true, false, false, false, false, true, false, false] rfl rfl rfl rfl (two_of HT_.out (by kernel_rfl)) (by decide) (by decide) (fun K hK => ?_) (fun K hK => ?_)
                  ·skip
                   refine goes_ Try.func14 (by kernel_rfl) rfl #[.agg #[.bool t394, .slice Ao58 t395.length co58, .int .i64 t398], .agg #[.bool t399, .slice Ao59 t400.length co59, .int .i64 t403]] (by rfl) rfl rfl (by (try simp only [List.map_toArray, List.map_cons, List.map_nil]); first | done | rfl | (simp only [List.length_drop, List.length_take]; rfl)) ?_
                   with_reducible refine (rubricref5_Add.calls kj10 t394 (fun k_ => (k_ ≠ gb379 ∧ (k_ ≠ gb386 ∧ k_ ≠ gb393))) _ _ t395 t398 t399 (fun k_ => (k_ ≠ gb379 ∧ (k_ ≠ gb386 ∧ k_ ≠ gb393))) _ _ t400 t403 t404 t405 t408 t409 _ ?side1 ?side2 A26.out).mono ?_
                   (case side1 => exact HO397.out)
                   (case side2 => exact HO402.out)
                   rintro e w60 ⟨v406, rfl, ho0, hb⟩
                   refine ⟨_, rfl, ?_⟩
                   have n0_ := Aside0.mk (Kd.V_elder' (S.v HO_380001.out) (Kd.R_base ho0) hb)
                   have n1_ := Aside0.mk (Kd.V_elder' (S.v HO_387001.out) (Kd.R_base ho0) hb)
                   have n2_ := Aside0.mk (Kd.V_elder' (S.v HO390.out) (Kd.R_base ho0) hb)
                   have n3_ := Aside0.mk (Kd.V_elder' (S.v HO397.out) (Kd.R_base ho0) hb)
                   have n4_ := Aside0.mk (Kd.V_elder' (S.v HO402.out) (Kd.R_base ho0) hb)
                   have n5_ := Aside0.mk (Kd.R_lower (Kd.R_mono (ok' := fun k_ => True) ho0 (fun _ hk_ => trivial)) (below_size (by repeat (first | (with_reducible first | exact HB.out | apply below_alloc | apply pw_below_drewN | apply below_drew1 | refine below_set ?_ GE379.out | refine below_set ?_ GE386.out | refine below_set ?_ GE393.out) | exact HB.out))))
                   have n6_ := Aside0.mk (blk_below (g := gb379) (o := .cells #[.bool t373, .slice Ao15 t374.length co15, .int .i64 t377] 25 (0, 0)) (S.b BK379.out) hb)
                   have n7_ := Aside0.mk (blk_below (g := gb386) (o := .cells #[.bool t380, .slice Ao20 t381.length co20, .int .i64 t384] 25 (0, 0)) (S.b BK386.out) hb)
                   have n8_ := Aside0.mk (blk_below (g := gb393) (o := .cells #[.bool t387, .slice Ao53 t388.length co53, .int .i64 t391] 25 (0, 0)) (S.b BK393.out) hb)
                   have n9_ := Aside0.mk (below_step (by repeat (first | (with_reducible first | exact HB.out | apply below_alloc | apply pw_below_drewN | apply below_drew1 | refine below_set ?_ GE379.out | refine below_set ?_ GE386.out | refine below_set ?_ GE393.out) | exact HB.out)) hb)
                   clear HO_380001
                   clear HO_387001
                   clear HO390
                   clear HO397
                   clear HO402
                   clear BK379
                   clear BK386
                   clear BK393
                   clear HB
                   have HO_380001 := n0_
                   have HO_387001 := n1_
                   have HO390 := n2_
                   have HO397 := n3_
                   have HO402 := n4_
                   have HO407 := n5_
                   have BK379 := n6_
                   have BK386 := n7_
                   have BK393 := n8_
                   have HB := n9_
                   clear n0_ n1_ n2_ n3_ n4_ n5_ n6_ n7_ n8_ n9_
                   (try clear hb)
                   (try clear hb2)
                   (try clear hk)
                   (try clear hi)
                   (try clear ho0)
                   refine hK.out _ _ ⟨(blk_cell BK379.out 0).trans rfl, (blk_cell BK379.out 1).trans rfl, (blk_cell BK379.out 2).trans rfl, (blk_cell BK386.out 0).trans rfl, (blk_cell BK386.out 1).trans rfl, (blk_cell BK386.out 2).trans rfl⟩ (fun hHeld => ?_)
                   clear hK K
                   refine norm_ (a' := ?_) ?_ ?_
                   rotate_left
                   ·show Act.put _ (some 53) _ = _
                    simp only [Act.put, List.setIfInBounds_toArray, List.set_cons_zero, List.set_cons_succ, i64_w, i32_w]
                    rfl
                   refine pure_ (i := 5) (N := some 48) (v := ?_) (a' := ?_) #[true, true, true, true, true, true, false, false, false, false, false] rfl rfl (any_of HT_.out (by kernel_rfl)) (fun _ _ _ h => h) (Or.inl ⟨by rfl, ?_⟩) ?_ ?_
                   rotate_left
                   ·intro w'
                    go_simp
                    with_reducible rfl
                   rotate_left
                   ·simp only [Act.put, List.setIfInBounds_toArray, List.set_cons_zero, List.set_cons_succ, i64_w, i32_w]
                    rfl
                   refine pure_ (i := 6) (N := some 54) (v := ?_) (a' := ?_) #[true, true, true, true, true, true, true, false, false, false, false] rfl rfl (any_of HT_.out (by kernel_rfl)) (fun _ _ _ h => h) (Or.inl ⟨by rfl, ?_⟩) ?_ ?_
                   rotate_left
                   ·intro w'
                    go_simp
                    with_reducible rfl
                   rotate_left
                   ·simp only [Act.put, List.setIfInBounds_toArray, List.set_cons_zero, List.set_cons_succ, i64_w, i32_w]
                    rfl
                   refine pure_ (i := 7) (N := some 55) (v := ?_) (a' := ?_) #[true, true, true, true, true, true, true, true, false, false, false] rfl rfl (any_of HT_.out (by kernel_rfl)) (fun _ _ _ h => h) (Or.inl ⟨by rfl, ?_⟩) ?_ ?_
                   rotate_left
                   ·intro w'
                    go_simp
                    with_reducible rfl
                   rotate_left
                   ·simp only [Act.put, List.setIfInBounds_toArray, List.set_cons_zero, List.set_cons_succ, i64_w, i32_w]
                    rfl
                   refine one_ (i := 8) (N := some 11) #[true, true, true, true, true, true, true, true, true, false, false] rfl rfl (one_of HT_.out (by kernel_rfl)) (by decide) (fun K hK => ?_)
                   refine box_step ?hg (N := 11) ?hd (cs := #[.bool false, .slice none 0 0, .int .i64 0]) (t := 36) ?hr ?_; (case hd => rfl); (case hg => rfl); (case hr => first | (go_simp; done) | (go_simp; rfl))
                   intro gb410 hg w61 hbox hb
                   have n0_ := Aside0.mk (Kd.V_below (Kd.V_elderB (S.v HO_380001.out) gb410 (Nat.le_of_eq hg.symm)) hb)
                   have n1_ := Aside0.mk (Kd.V_below (Kd.V_elderB (S.v HO_387001.out) gb410 (Nat.le_of_eq hg.symm)) hb)
                   have n2_ := Aside0.mk (Kd.V_below (Kd.V_elderB (S.v HO390.out) gb410 (Nat.le_of_eq hg.symm)) hb)
                   have n3_ := Aside0.mk (Kd.V_below (Kd.V_elderB (S.v HO397.out) gb410 (Nat.le_of_eq hg.symm)) hb)
                   have n4_ := Aside0.mk (Kd.V_below (Kd.V_elderB (S.v HO402.out) gb410 (Nat.le_of_eq hg.symm)) hb)
                   have n5_ := Aside0.mk (Kd.R_below (S.r HO407.out) hb)
                   have n6_ := Aside0.mk (blk_below (g := gb379) (o := .cells #[.bool t373, .slice Ao15 t374.length co15, .int .i64 t377] 25 (0, 0)) (S.b BK379.out) hb)
                   have n7_ := Aside0.mk (blk_below (g := gb386) (o := .cells #[.bool t380, .slice Ao20 t381.length co20, .int .i64 t384] 25 (0, 0)) (S.b BK386.out) hb)
                   have n8_ := Aside0.mk (blk_below (g := gb393) (o := .cells #[.bool t387, .slice Ao53 t388.length co53, .int .i64 t391] 25 (0, 0)) (S.b BK393.out) hb)
                   have n9_ := Aside0.mk (below_step (by repeat (first | (with_reducible first | exact HB.out | apply below_alloc | apply pw_below_drewN | apply below_drew1 | refine below_set ?_ GE379.out | refine below_set ?_ GE386.out | refine below_set ?_ GE393.out) | exact HB.out)) hb)
                   have n10_ := Aside0.mk (hbox)
                   have n11_ := Aside0.mk ((by rw [hg]; exact (below_size (by repeat (first | (with_reducible first | exact HB.out | apply below_alloc | apply pw_below_drewN | apply below_drew1 | refine below_set ?_ GE379.out | refine below_set ?_ GE386.out | refine below_set ?_ GE393.out) | exact HB.out))) : w.heap.size ≤ gb410))
                   have n12_ := Aside0.mk ((by rw [hg]; exact (below_size (by repeat (first | (with_reducible first | exact HB.out | apply below_alloc | apply pw_below_drewN | apply below_drew1 | refine below_set ?_ GE379.out | refine below_set ?_ GE386.out | refine below_set ?_ GE393.out) | exact HB.out))) : w.heap.size ≤ gb410))
                   have n13_ := Aside0.mk ((by rw [hg]; exact Nat.ne_of_lt (blk_lt (g := gb379) (o := .cells #[.bool t373, .slice Ao15 t374.length co15, .int .i64 t377] 25 (0, 0)) (S.b BK379.out)) : gb379 ≠ gb410))
                   have n14_ := Aside0.mk ((by rw [hg]; exact Nat.ne_of_gt (blk_lt (g := gb379) (o := .cells #[.bool t373, .slice Ao15 t374.length co15, .int .i64 t377] 25 (0, 0)) (S.b BK379.out)) : gb410 ≠ gb379))
                   have n15_ := Aside0.mk ((by rw [hg]; exact Nat.ne_of_lt (blk_lt (g := gb386) (o := .cells #[.bool t380, .slice Ao20 t381.length co20, .int .i64 t384] 25 (0, 0)) (S.b BK386.out)) : gb386 ≠ gb410))
                   have n16_ := Aside0.mk ((by rw [hg]; exact Nat.ne_of_gt (blk_lt (g := gb386) (o := .cells #[.bool t380, .slice Ao20 t381.length co20, .int .i64 t384] 25 (0, 0)) (S.b BK386.out)) : gb410 ≠ gb386))
                   have n17_ := Aside0.mk ((by rw [hg]; exact Nat.ne_of_lt (blk_lt (g := gb393) (o := .cells #[.bool t387, .slice Ao53 t388.length co53, .int .i64 t391] 25 (0, 0)) (S.b BK393.out)) : gb393 ≠ gb410))
                   have n18_ := Aside0.mk ((by rw [hg]; exact Nat.ne_of_gt (blk_lt (g := gb393) (o := .cells #[.bool t387, .slice Ao53 t388.length co53, .int .i64 t391] 25 (0, 0)) (S.b BK393.out)) : gb410 ≠ gb393))
                   clear HO_380001
                   clear HO_387001
                   clear HO390
                   clear HO397
                   clear HO402
                   clear HO407
                   clear BK379
                   clear BK386
                   clear BK393
                   clear HB
                   have HO_380001 := n0_
                   have HO_387001 := n1_
                   have HO390 := n2_
                   have HO397 := n3_
                   have HO402 := n4_
                   have HO407 := n5_
                   have BK379 := n6_
                   have BK386 := n7_
                   have BK393 := n8_
                   have HB := n9_
                   have BK410 := n10_
                   have GW410 := n11_
                   have GE410 := n12_
                   have NB379_410 := n13_
                   have NB410_379 := n14_
                   have NB386_410 := n15_
                   have NB410_386 := n16_
                   have NB393_410 := n17_
                   have NB410_393 := n18_
                   clear n0_ n1_ n2_ n3_ n4_ n5_ n6_ n7_ n8_ n9_ n10_ n11_ n12_ n13_ n14_ n15_ n16_ n17_ n18_
                   clear hb hbox hg
                   refine hK.out _ _ ⟨(blk_cell BK379.out 0).trans rfl, (blk_cell BK379.out 1).trans rfl, (blk_cell BK379.out 2).trans rfl, (blk_cell BK386.out 0).trans rfl, (blk_cell BK386.out 1).trans rfl, (blk_cell BK386.out 2).trans rfl⟩ (fun hHeld => ?_)
                   clear hK K
                   refine norm_ (a' := ?_) ?_ ?_
                   rotate_left
                   ·show Act.put _ (some 11) _ = _
                    simp only [Act.put, List.setIfInBounds_toArray, List.set_cons_zero, List.set_cons_succ, i64_w, i32_w]
                    rfl
                   exact norm_ (by simp only [putAll, Act.put, List.setIfInBounds_toArray, List.set_cons_zero, List.set_cons_succ]) (hCont (.slice Ao58 t395.length co58, .slice Ao59 t400.length co59, v406, gb410) _ ⟨hHeld, (by (with_reducible repeat (first | apply Kd.V_alloc | apply Kd.V_drewN | apply Kd.V_drew)); exact Kd.V_mono HO390.out (fun _ hk => ⟨hk.1.2, ⟨hk.1.1.1, ⟨hk.1.1.2.1, ⟨hk.1.1.2.2, hk.2⟩⟩⟩⟩)), (by (with_reducible repeat (first | apply Kd.V_alloc | apply Kd.V_drewN | apply Kd.V_drew)); exact Kd.V_mono HO397.out (fun _ hk => ⟨hk.1.2, ⟨hk.1.1.1, ⟨hk.1.1.2.1, ⟨hk.1.1.2.2, hk.2⟩⟩⟩⟩)), (by (with_reducible repeat (first | apply Kd.V_alloc | apply Kd.V_drewN | apply Kd.V_drew)); exact Kd.V_mono HO402.out (fun _ hk => ⟨hk.1.2, ⟨hk.1.1.1, ⟨hk.1.1.2.1, ⟨hk.1.1.2.2, hk.2⟩⟩⟩⟩)), (S.r HO407.out), (by (with_reducible repeat (first | apply Kd.V_alloc | apply Kd.V_drewN | apply Kd.V_drew)); exact Kd.V_mono HO_380001.out (fun _ hk => ⟨hk.1.2, ⟨hk.1.1.1, ⟨hk.1.1.2.1, ⟨hk.1.1.2.2, hk.2⟩⟩⟩⟩)), (by (with_reducible repeat (first | apply Kd.V_alloc | apply Kd.V_drewN | apply Kd.V_drew)); exact Kd.V_mono HO_387001.out (fun _ hk => ⟨hk.1.2, ⟨hk.1.1.1, ⟨hk.1.1.2.1, ⟨hk.1.1.2.2, hk.2⟩⟩⟩⟩)), (S.b BK379.out), (S.b BK386.out), (S.b BK393.out), (S.b BK410.out), GW410.out, GE410.out, NB379_410.out, NB410_379.out, NB386_410.out, NB410_386.out, NB393_410.out, NB410_393.out, (by repeat (first | (with_reducible first | exact HB.out | apply below_alloc | apply pw_below_drewN | apply below_drew1 | refine below_set ?_ GE379.out | refine below_set ?_ GE386.out | refine below_set ?_ GE393.out | refine below_set ?_ GE410.out) | exact HB.out))⟩)
                  ·skip
                   refine box_step ?hg (N := 11) ?hd (cs := #[.bool false, .slice none 0 0, .int .i64 0]) (t := 36) ?hr ?_; (case hd => rfl); (case hg => rfl); (case hr => first | (go_simp; done) | (go_simp; rfl))
                   intro gb410 hg w58 hbox hb
                   have n0_ := Aside0.mk (Kd.V_below (Kd.V_elderB (S.v HO_380001.out) gb410 (Nat.le_of_eq hg.symm)) hb)
                   have n1_ := Aside0.mk (Kd.V_below (Kd.V_elderB (S.v HO_387001.out) gb410 (Nat.le_of_eq hg.symm)) hb)
                   have n2_ := Aside0.mk (Kd.V_below (Kd.V_elderB (S.v HO390.out) gb410 (Nat.le_of_eq hg.symm)) hb)
                   have n3_ := Aside0.mk (Kd.V_below (Kd.V_elderB (S.v HO397.out) gb410 (Nat.le_of_eq hg.symm)) hb)
                   have n4_ := Aside0.mk (Kd.V_below (Kd.V_elderB (S.v HO402.out) gb410 (Nat.le_of_eq hg.symm)) hb)
                   have n5_ := Aside0.mk (blk_below (g := gb379) (o := .cells #[.bool t373, .slice Ao15 t374.length co15, .int .i64 t377] 25 (0, 0)) (S.b BK379.out) hb)
                   have n6_ := Aside0.mk (blk_below (g := gb386) (o := .cells #[.bool t380, .slice Ao20 t381.length co20, .int .i64 t384] 25 (0, 0)) (S.b BK386.out) hb)
                   have n7_ := Aside0.mk (blk_below (g := gb393) (o := .cells #[.bool t387, .slice Ao53 t388.length co53, .int .i64 t391] 25 (0, 0)) (S.b BK393.out) hb)
                   have n8_ := Aside0.mk (below_step (by repeat (first | (with_reducible first | exact HB.out | apply below_alloc | apply pw_below_drewN | apply below_drew1 | refine below_set ?_ GE379.out | refine below_set ?_ GE386.out | refine below_set ?_ GE393.out) | exact HB.out)) hb)
                   have n9_ := Aside0.mk (hbox)
                   have n10_ := Aside0.mk ((by rw [hg]; exact (below_size (by repeat (first | (with_reducible first | exact HB.out | apply below_alloc | apply pw_below_drewN | apply below_drew1 | refine below_set ?_ GE379.out | refine below_set ?_ GE386.out | refine below_set ?_ GE393.out) | exact HB.out))) : w.heap.size ≤ gb410))
                   have n11_ := Aside0.mk ((by rw [hg]; exact (below_size (by repeat (first | (with_reducible first | exact HB.out | apply below_alloc | apply pw_below_drewN | apply below_drew1 | refine below_set ?_ GE379.out | refine below_set ?_ GE386.out | refine below_set ?_ GE393.out) | exact HB.out))) : w.heap.size ≤ gb410))
                   have n12_ := Aside0.mk ((by rw [hg]; exact Nat.ne_of_lt (blk_lt (g := gb379) (o := .cells #[.bool t373, .slice Ao15 t374.length co15, .int .i64 t377] 25 (0, 0)) (S.b BK379.out)) : gb379 ≠ gb410))
                   have n13_ := Aside0.mk ((by rw [hg]; exact Nat.ne_of_gt (blk_lt (g := gb379) (o := .cells #[.bool t373, .slice Ao15 t374.length co15, .int .i64 t377] 25 (0, 0)) (S.b BK379.out)) : gb410 ≠ gb379))
                   have n14_ := Aside0.mk ((by rw [hg]; exact Nat.ne_of_lt (blk_lt (g := gb386) (o := .cells #[.bool t380, .slice Ao20 t381.length co20, .int .i64 t384] 25 (0, 0)) (S.b BK386.out)) : gb386 ≠ gb410))
                   have n15_ := Aside0.mk ((by rw [hg]; exact Nat.ne_of_gt (blk_lt (g := gb386) (o := .cells #[.bool t380, .slice Ao20 t381.length co20, .int .i64 t384] 25 (0, 0)) (S.b BK386.out)) : gb410 ≠ gb386))
                   have n16_ := Aside0.mk ((by rw [hg]; exact Nat.ne_of_lt (blk_lt (g := gb393) (o := .cells #[.bool t387, .slice Ao53 t388.length co53, .int .i64 t391] 25 (0, 0)) (S.b BK393.out)) : gb393 ≠ gb410))
                   have n17_ := Aside0.mk ((by rw [hg]; exact Nat.ne_of_gt (blk_lt (g := gb393) (o := .cells #[.bool t387, .slice Ao53 t388.length co53, .int .i64 t391] 25 (0, 0)) (S.b BK393.out)) : gb410 ≠ gb393))
                   clear HO_380001
                   clear HO_387001
                   clear HO390
                   clear HO397
                   clear HO402
                   clear BK379
                   clear BK386
                   clear BK393
                   clear HB
                   have HO_380001 := n0_
                   have HO_387001 := n1_
                   have HO390 := n2_
                   have HO397 := n3_
                   have HO402 := n4_
                   have BK379 := n5_
                   have BK386 := n6_
                   have BK393 := n7_
                   have HB := n8_
                   have BK410 := n9_
                   have GW410 := n10_
                   have GE410 := n11_
                   have NB379_410 := n12_
                   have NB410_379 := n13_
                   have NB386_410 := n14_
                   have NB410_386 := n15_
                   have NB393_410 := n16_
                   have NB410_393 := n17_
                   clear n0_ n1_ n2_ n3_ n4_ n5_ n6_ n7_ n8_ n9_ n10_ n11_ n12_ n13_ n14_ n15_ n16_ n17_
                   clear hb hbox hg
                   obtain ⟨Ao59, co59, eo59⟩ := Kd.V_slice HO397.out
                   (first | subst eo59 | (injection eo59 with f1_ f2_ f3_; have f4_ := f1_.symm; have f5_ := f3_.symm; clear f1_ f2_ f3_; subst f4_; subst f5_))
                   obtain ⟨Ao60, co60, eo60⟩ := Kd.V_slice HO402.out
                   (first | subst eo60 | (injection eo60 with f1_ f2_ f3_; have f4_ := f1_.symm; have f5_ := f3_.symm; clear f1_ f2_ f3_; subst f4_; subst f5_))
                   refine hK.out _ _ ⟨(blk_cell BK379.out 0).trans rfl, (blk_cell BK379.out 1).trans rfl, (blk_cell BK379.out 2).trans rfl, (blk_cell BK386.out 0).trans rfl, (blk_cell BK386.out 1).trans rfl, (blk_cell BK386.out 2).trans rfl⟩ (fun hHeld => ?_)
                   clear hK K
                   refine norm_ (a' := ?_) ?_ ?_
                   rotate_left
                   ·show Act.put _ (some 11) _ = _
                    simp only [Act.put, List.setIfInBounds_toArray, List.set_cons_zero, List.set_cons_succ, i64_w, i32_w]
                    rfl
                   refine one_ (i := 4) (N := some 53) #[true, true, true, true, true, false, false, false, true, false, false] rfl rfl (one_of HT_.out (by kernel_rfl)) (by decide) (fun K hK => ?_)
                   refine goes_ Try.func14 (by kernel_rfl) rfl #[.agg #[.bool t394, .slice Ao59 t395.length co59, .int .i64 t398], .agg #[.bool t399, .slice Ao60 t400.length co60, .int .i64 t403]] (by rfl) rfl rfl (by (try simp only [List.map_toArray, List.map_cons, List.map_nil]); first | done | rfl | (simp only [List.length_drop, List.length_take]; rfl)) ?_
                   with_reducible refine (rubricref5_Add.calls kj10 t394 (fun k_ => ((k_ ≠ gb379 ∧ (k_ ≠ gb386 ∧ k_ ≠ gb393)) ∧ k_ ≠ gb410)) _ _ t395 t398 t399 (fun k_ => ((k_ ≠ gb379 ∧ (k_ ≠ gb386 ∧ k_ ≠ gb393)) ∧ k_ ≠ gb410)) _ _ t400 t403 t404 t405 t408 t409 _ ?side1 ?side2 A26.out).mono ?_
                   (case side1 => exact HO397.out)
                   (case side2 => exact HO402.out)
                   rintro e w61 ⟨v406, rfl, ho0, hb⟩
                   refine ⟨_, rfl, ?_⟩
                   have n0_ := Aside0.mk (Kd.V_elder' (S.v HO_380001.out) (Kd.R_base ho0) hb)
                   have n1_ := Aside0.mk (Kd.V_elder' (S.v HO_387001.out) (Kd.R_base ho0) hb)
                   have n2_ := Aside0.mk (Kd.V_elder' (S.v HO390.out) (Kd.R_base ho0) hb)
                   have n3_ := Aside0.mk (Kd.V_elder' (S.v HO397.out) (Kd.R_base ho0) hb)
                   have n4_ := Aside0.mk (Kd.V_elder' (S.v HO402.out) (Kd.R_base ho0) hb)
                   have n5_ := Aside0.mk (Kd.R_lower (Kd.R_mono (ok' := fun k_ => True) ho0 (fun _ hk_ => trivial)) (below_size (by repeat (first | (with_reducible first | exact HB.out | apply below_alloc | apply pw_below_drewN | apply below_drew1 | refine below_set ?_ GE379.out | refine below_set ?_ GE386.out | refine below_set ?_ GE393.out | refine below_set ?_ GE410.out) | exact HB.out))))
                   have n6_ := Aside0.mk (blk_below (g := gb379) (o := .cells #[.bool t373, .slice Ao15 t374.length co15, .int .i64 t377] 25 (0, 0)) (S.b BK379.out) hb)
                   have n7_ := Aside0.mk (blk_below (g := gb386) (o := .cells #[.bool t380, .slice Ao20 t381.length co20, .int .i64 t384] 25 (0, 0)) (S.b BK386.out) hb)
                   have n8_ := Aside0.mk (blk_below (g := gb393) (o := .cells #[.bool t387, .slice Ao53 t388.length co53, .int .i64 t391] 25 (0, 0)) (S.b BK393.out) hb)
                   have n9_ := Aside0.mk (blk_below (g := gb410) (o := .cells #[.bool false, .slice none 0 0, .int .i64 0] 36 (0, 0)) (S.b BK410.out) hb)
                   have n10_ := Aside0.mk (below_step (by repeat (first | (with_reducible first | exact HB.out | apply below_alloc | apply pw_below_drewN | apply below_drew1 | refine below_set ?_ GE379.out | refine below_set ?_ GE386.out | refine below_set ?_ GE393.out | refine below_set ?_ GE410.out) | exact HB.out)) hb)
                   clear HO_380001
                   clear HO_387001
                   clear HO390
                   clear HO397
                   clear HO402
                   clear BK379
                   clear BK386
                   clear BK393
                   clear BK410
                   clear HB
                   have HO_380001 := n0_
                   have HO_387001 := n1_
                   have HO390 := n2_
                   have HO397 := n3_
                   have HO402 := n4_
                   have HO407 := n5_
                   have BK379 := n6_
                   have BK386 := n7_
                   have BK393 := n8_
                   have BK410 := n9_
                   have HB := n10_
                   clear n0_ n1_ n2_ n3_ n4_ n5_ n6_ n7_ n8_ n9_ n10_
                   (try clear hb)
                   (try clear hb2)
                   (try clear hk)
                   (try clear hi)
                   (try clear ho0)
                   refine hK.out _ _ ⟨(blk_cell BK379.out 0).trans rfl, (blk_cell BK379.out 1).trans rfl, (blk_cell BK379.out 2).trans rfl, (blk_cell BK386.out 0).trans rfl, (blk_cell BK386.out 1).trans rfl, (blk_cell BK386.out 2).trans rfl⟩ (fun hHeld => ?_)
                   clear hK K
                   refine norm_ (a' := ?_) ?_ ?_
                   rotate_left
                   ·show Act.put _ (some 53) _ = _
                    simp only [Act.put, List.setIfInBounds_toArray, List.set_cons_zero, List.set_cons_succ, i64_w, i32_w]
                    rfl
                   refine pure_ (i := 5) (N := some 48) (v := ?_) (a' := ?_) #[true, true, true, true, true, true, false, false, true, false, false] rfl rfl (any_of HT_.out (by kernel_rfl)) (fun _ _ _ h => h) (Or.inl ⟨by rfl, ?_⟩) ?_ ?_
                   rotate_left
                   ·intro w'
                    go_simp
                    with_reducible rfl
                   rotate_left
                   ·simp only [Act.put, List.setIfInBounds_toArray, List.set_cons_zero, List.set_cons_succ, i64_w, i32_w]
                    rfl
                   refine pure_ (i := 6) (N := some 54) (v := ?_) (a' := ?_) #[true, true, true, true, true, true, true, false, true, false, false] rfl rfl (any_of HT_.out (by kernel_rfl)) (fun _ _ _ h => h) (Or.inl ⟨by rfl, ?_⟩) ?_ ?_
                   rotate_left
                   ·intro w'
                    go_simp
                    with_reducible rfl
                   rotate_left
                   ·simp only [Act.put, List.setIfInBounds_toArray, List.set_cons_zero, List.set_cons_succ, i64_w, i32_w]
                    rfl
                   refine pure_ (i := 7) (N := some 55) (v := ?_) (a' := ?_) #[true, true, true, true, true, true, true, true, true, false, false] rfl rfl (any_of HT_.out (by kernel_rfl)) (fun _ _ _ h => h) (Or.inl ⟨by rfl, ?_⟩) ?_ ?_
                   rotate_left
                   ·intro w'
                    go_simp
                    with_reducible rfl
                   rotate_left
                   ·simp only [Act.put, List.setIfInBounds_toArray, List.set_cons_zero, List.set_cons_succ, i64_w, i32_w]
                    rfl
                   exact norm_ (by simp only [putAll, Act.put, List.setIfInBounds_toArray, List.set_cons_zero, List.set_cons_succ]) (hCont (.slice Ao59 t395.length co59, .slice Ao60 t400.length co60, v406, gb410) _ ⟨hHeld, (by (with_reducible repeat (first | apply Kd.V_alloc | apply Kd.V_drewN | apply Kd.V_drew)); exact Kd.V_mono HO390.out (fun _ hk => ⟨hk.2, ⟨hk.1.1.1, ⟨hk.1.1.2.1, ⟨hk.1.1.2.2, hk.1.2⟩⟩⟩⟩)), (by (with_reducible repeat (first | apply Kd.V_alloc | apply Kd.V_drewN | apply Kd.V_drew)); exact Kd.V_mono HO397.out (fun _ hk => ⟨hk.2, ⟨hk.1.1.1, ⟨hk.1.1.2.1, ⟨hk.1.1.2.2, hk.1.2⟩⟩⟩⟩)), (by (with_reducible repeat (first | apply Kd.V_alloc | apply Kd.V_drewN | apply Kd.V_drew)); exact Kd.V_mono HO402.out (fun _ hk => ⟨hk.2, ⟨hk.1.1.1, ⟨hk.1.1.2.1, ⟨hk.1.1.2.2, hk.1.2⟩⟩⟩⟩)), (S.r HO407.out), (by (with_reducible repeat (first | apply Kd.V_alloc | apply Kd.V_drewN | apply Kd.V_drew)); exact Kd.V_mono HO_380001.out (fun _ hk => ⟨hk.2, ⟨hk.1.1.1, ⟨hk.1.1.2.1, ⟨hk.1.1.2.2, hk.1.2⟩⟩⟩⟩)), (by (with_reducible repeat (first | apply Kd.V_alloc | apply Kd.V_drewN | apply Kd.V_drew)); exact Kd.V_mono HO_387001.out (fun _ hk => ⟨hk.2, ⟨hk.1.1.1, ⟨hk.1.1.2.1, ⟨hk.1.1.2.2, hk.1.2⟩⟩⟩⟩)), (S.b BK379.out), (S.b BK386.out), (S.b BK393.out), (S.b BK410.out), GW410.out, GE410.out, NB379_410.out, NB410_379.out, NB386_410.out, NB410_386.out, NB393_410.out, NB410_393.out, (by repeat (first | (with_reducible first | exact HB.out | apply below_alloc | apply pw_below_drewN | apply below_drew1 | refine below_set ?_ GE379.out | refine below_set ?_ GE386.out | refine below_set ?_ GE393.out | refine below_set ?_ GE410.out) | exact HB.out))⟩)
                 ·skip
                  refine box_step ?hg (N := 11) ?hd (cs := #[.bool false, .slice none 0 0, .int .i64 0]) (t := 36) ?hr ?_; (case hd => rfl); (case hg => rfl); (case hr => first | (go_simp; done) | (go_simp; rfl))
                  intro gb410 hg w57 hbox hb
                  have n0_ := Aside0.mk (Kd.V_below (Kd.V_elderB (S.v HO_380001.out) gb410 (Nat.le_of_eq hg.symm)) hb)
                  have n1_ := Aside0.mk (Kd.V_below (Kd.V_elderB (S.v HO_387001.out) gb410 (Nat.le_of_eq hg.symm)) hb)
                  have n2_ := Aside0.mk (Kd.V_below (Kd.V_elderB (S.v HO390.out) gb410 (Nat.le_of_eq hg.symm)) hb)
                  have n3_ := Aside0.mk (Kd.V_below (Kd.V_elderB (S.v HO397.out) gb410 (Nat.le_of_eq hg.symm)) hb)
                  have n4_ := Aside0.mk (blk_below (g := gb379) (o := .cells #[.bool t373, .slice Ao15 t374.length co15, .int .i64 t377] 25 (0, 0)) (S.b BK379.out) hb)
                  have n5_ := Aside0.mk (blk_below (g := gb386) (o := .cells #[.bool t380, .slice Ao20 t381.length co20, .int .i64 t384] 25 (0, 0)) (S.b BK386.out) hb)
                  have n6_ := Aside0.mk (blk_below (g := gb393) (o := .cells #[.bool t387, .slice Ao53 t388.length co53, .int .i64 t391] 25 (0, 0)) (S.b BK393.out) hb)
                  have n7_ := Aside0.mk (below_step (by repeat (first | (with_reducible first | exact HB.out | apply below_alloc | apply pw_below_drewN | apply below_drew1 | refine below_set ?_ GE379.out | refine below_set ?_ GE386.out | refine below_set ?_ GE393.out) | exact HB.out)) hb)
                  have n8_ := Aside0.mk (hbox)
                  have n9_ := Aside0.mk ((by rw [hg]; exact (below_size (by repeat (first | (with_reducible first | exact HB.out | apply below_alloc | apply pw_below_drewN | apply below_drew1 | refine below_set ?_ GE379.out | refine below_set ?_ GE386.out | refine below_set ?_ GE393.out) | exact HB.out))) : w.heap.size ≤ gb410))
                  have n10_ := Aside0.mk ((by rw [hg]; exact (below_size (by repeat (first | (with_reducible first | exact HB.out | apply below_alloc | apply pw_below_drewN | apply below_drew1 | refine below_set ?_ GE379.out | refine below_set ?_ GE386.out | refine below_set ?_ GE393.out) | exact HB.out))) : w.heap.size ≤ gb410))
                  have n11_ := Aside0.mk ((by rw [hg]; exact Nat.ne_of_lt (blk_lt (g := gb379) (o := .cells #[.bool t373, .slice Ao15 t374.length co15, .int .i64 t377] 25 (0, 0)) (S.b BK379.out)) : gb379 ≠ gb410))
                  have n12_ := Aside0.mk ((by rw [hg]; exact Nat.ne_of_gt (blk_lt (g := gb379) (o := .cells #[.bool t373, .slice Ao15 t374.length co15, .int .i64 t377] 25 (0, 0)) (S.b BK379.out)) : gb410 ≠ gb379))
                  have n13_ := Aside0.mk ((by rw [hg]; exact Nat.ne_of_lt (blk_lt (g := gb386) (o := .cells #[.bool t380, .slice Ao20 t381.length co20, .int .i64 t384] 25 (0, 0)) (S.b BK386.out)) : gb386 ≠ gb410))
                  have n14_ := Aside0.mk ((by rw [hg]; exact Nat.ne_of_gt (blk_lt (g := gb386) (o := .cells #[.bool t380, .slice Ao20 t381.length co20, .int .i64 t384] 25 (0, 0)) (S.b BK386.out)) : gb410 ≠ gb386))
                  have n15_ := Aside0.mk ((by rw [hg]; exact Nat.ne_of_lt (blk_lt (g := gb393) (o := .cells #[.bool t387, .slice Ao53 t388.length co53, .int .i64 t391] 25 (0, 0)) (S.b BK393.out)) : gb393 ≠ gb410))
                  have n16_ := Aside0.mk ((by rw [hg]; exact Nat.ne_of_gt (blk_lt (g := gb393) (o := .cells #[.bool t387, .slice Ao53 t388.length co53, .int .i64 t391] 25 (0, 0)) (S.b BK393.out)) : gb410 ≠ gb393))
                  clear HO_380001
                  clear HO_387001
                  clear HO390
                  clear HO397
                  clear BK379
                  clear BK386
                  clear BK393
                  clear HB
                  have HO_380001 := n0_
                  have HO_387001 := n1_
                  have HO390 := n2_
                  have HO397 := n3_
                  have BK379 := n4_
                  have BK386 := n5_
                  have BK393 := n6_
                  have HB := n7_
                  have BK410 := n8_
                  have GW410 := n9_
                  have GE410 := n10_
                  have NB379_410 := n11_
                  have NB410_379 := n12_
                  have NB386_410 := n13_
                  have NB410_386 := n14_
                  have NB393_410 := n15_
                  have NB410_393 := n16_
                  clear n0_ n1_ n2_ n3_ n4_ n5_ n6_ n7_ n8_ n9_ n10_ n11_ n12_ n13_ n14_ n15_ n16_
                  clear hb hbox hg
                  refine hK.out _ _ ⟨(blk_cell BK379.out 0).trans rfl, (blk_cell BK379.out 1).trans rfl, (blk_cell BK379.out 2).trans rfl, (blk_cell BK386.out 0).trans rfl, (blk_cell BK386.out 1).trans rfl, (blk_cell BK386.out 2).trans rfl⟩ (fun hHeld => ?_)
                  clear hK K
                  refine norm_ (a' := ?_) ?_ ?_
                  rotate_left
                  ·show Act.put _ (some 11) _ = _
                   simp only [Act.put, List.setIfInBounds_toArray, List.set_cons_zero, List.set_cons_succ, i64_w, i32_w]
                   rfl
                  refine one_ (i := 3) (N := some 52) #[true, true, true, true, false, false, false, false, true, false, false] rfl rfl (one_of HT_.out (by kernel_rfl)) (by decide) (fun K hK => ?_)
                  refine goes_ Try.func15 (by kernel_rfl) rfl #[.agg #[.bool t380, .slice Ao20 t381.length co20, .int .i64 t384]] (by rfl) rfl rfl (by (try simp only [List.map_toArray, List.map_cons, List.map_nil]); first | done | rfl | (simp only [List.length_drop, List.length_take]; rfl)) ?_
                  with_reducible refine (rubriclaw5_Of.calls t380 (fun k_ => ((k_ ≠ gb379 ∧ (k_ ≠ gb386 ∧ k_ ≠ gb393)) ∧ k_ ≠ gb410)) _ _ t381 t384 t399 t400 t403 _ ?side1 A25.out).mono ?_
                  (case side1 => exact HO_387001.out)
                  rintro e w58 ⟨v401, rfl, ho0, hb⟩
                  refine ⟨_, rfl, ?_⟩
                  have n0_ := Aside0.mk (Kd.V_below (S.v HO_380001.out) hb)
                  have n1_ := Aside0.mk (Kd.V_below (S.v HO_387001.out) hb)
                  have n2_ := Aside0.mk (Kd.V_below (S.v HO390.out) hb)
                  have n3_ := Aside0.mk (Kd.V_below (S.v HO397.out) hb)
                  have n4_ := Aside0.mk (Kd.V_lower (Kd.V_mono (ok' := fun k_ => k_ ≠ gb379 ∧ k_ ≠ gb386 ∧ k_ ≠ gb393 ∧ k_ ≠ gb410) ho0 (fun k_ hk_ => ⟨Or.elim hk_ (fun hs_ => hs_.1.1) (fun hn_ => (Kd.freshB (g := gb379) (o := .cells #[.bool t373, .slice Ao15 t374.length co15, .int .i64 t377] 25 (0, 0)) (S.b BK379.out) k_ hn_)), Or.elim hk_ (fun hs_ => hs_.1.2.1) (fun hn_ => (Kd.freshB (g := gb386) (o := .cells #[.bool t380, .slice Ao20 t381.length co20, .int .i64 t384] 25 (0, 0)) (S.b BK386.out) k_ hn_)), Or.elim hk_ (fun hs_ => hs_.1.2.2) (fun hn_ => (Kd.freshB (g := gb393) (o := .cells #[.bool t387, .slice Ao53 t388.length co53, .int .i64 t391] 25 (0, 0)) (S.b BK393.out) k_ hn_)), Or.elim hk_ (fun hs_ => hs_.2) (fun hn_ => (Kd.freshB (g := gb410) (o := .cells #[.bool false, .slice none 0 0, .int .i64 0] 36 (0, 0)) (S.b BK410.out) k_ hn_))⟩)) (below_size (by repeat (first | (with_reducible first | exact HB.out | apply below_alloc | apply pw_below_drewN | apply below_drew1 | refine below_set ?_ GE379.out | refine below_set ?_ GE386.out | refine below_set ?_ GE393.out | refine below_set ?_ GE410.out) | exact HB.out))))
                  have n5_ := Aside0.mk (blk_below (g := gb379) (o := .cells #[.bool t373, .slice Ao15 t374.length co15, .int .i64 t377] 25 (0, 0)) (S.b BK379.out) hb)
                  have n6_ := Aside0.mk (blk_below (g := gb386) (o := .cells #[.bool t380, .slice Ao20 t381.length co20, .int .i64 t384] 25 (0, 0)) (S.b BK386.out) hb)
                  have n7_ := Aside0.mk (blk_below (g := gb393) (o := .cells #[.bool t387, .slice Ao53 t388.length co53, .int .i64 t391] 25 (0, 0)) (S.b BK393.out) hb)
                  have n8_ := Aside0.mk (blk_below (g := gb410) (o := .cells #[.bool false, .slice none 0 0, .int .i64 0] 36 (0, 0)) (S.b BK410.out) hb)
                  have n9_ := Aside0.mk (below_step (by repeat (first | (with_reducible first | exact HB.out | apply below_alloc | apply pw_below_drewN | apply below_drew1 | refine below_set ?_ GE379.out | refine below_set ?_ GE386.out | refine below_set ?_ GE393.out | refine below_set ?_ GE410.out) | exact HB.out)) hb)
                  clear HO_380001
                  clear HO_387001
                  clear HO390
                  clear HO397
                  clear BK379
                  clear BK386
                  clear BK393
                  clear BK410
                  clear HB
                  have HO_380001 := n0_
                  have HO_387001 := n1_
                  have HO390 := n2_
                  have HO397 := n3_
                  have HO402 := n4_
                  have BK379 := n5_
                  have BK386 := n6_
                  have BK393 := n7_
                  have BK410 := n8_
                  have HB := n9_
                  clear n0_ n1_ n2_ n3_ n4_ n5_ n6_ n7_ n8_ n9_
                  (try clear hb)
                  (try clear hb2)
                  (try clear hk)
                  (try clear hi)
                  (try clear ho0)
                  obtain ⟨Ao59, co59, eo59⟩ := Kd.V_slice HO397.out
                  (first | subst eo59 | (injection eo59 with f1_ f2_ f3_; have f4_ := f1_.symm; have f5_ := f3_.symm; clear f1_ f2_ f3_; subst f4_; subst f5_))
                  obtain ⟨Ao60, co60, eo60⟩ := Kd.V_slice HO402.out
                  (first | subst eo60 | (injection eo60 with f1_ f2_ f3_; have f4_ := f1_.symm; have f5_ := f3_.symm; clear f1_ f2_ f3_; subst f4_; subst f5_))
                  refine hK.out _ _ ⟨(blk_cell BK379.out 0).trans rfl, (blk_cell BK379.out 1).trans rfl, (blk_cell BK379.out 2).trans rfl, (blk_cell BK386.out 0).trans rfl, (blk_cell BK386.out 1).trans rfl, (blk_cell BK386.out 2).trans rfl⟩ (fun hHeld => ?_)
                  clear hK K
                  refine norm_ (a' := ?_) ?_ ?_
                  rotate_left
                  ·show Act.put _ (some 52) _ = _
                   simp only [Act.put, List.setIfInBounds_toArray, List.set_cons_zero, List.set_cons_succ, i64_w, i32_w]
                   rfl
                  refine one_ (i := 4) (N := some 53) #[true, true, true, true, true, false, false, false, true, false, false] rfl rfl (one_of HT_.out (by kernel_rfl)) (by decide) (fun K hK => ?_)
                  refine goes_ Try.func14 (by kernel_rfl) rfl #[.agg #[.bool t394, .slice Ao59 t395.length co59, .int .i64 t398], .agg #[.bool t399, .slice Ao60 t400.length co60, .int .i64 t403]] (by rfl) rfl rfl (by (try simp only [List.map_toArray, List.map_cons, List.map_nil]); first | done | rfl | (simp only [List.length_drop, List.length_take]; rfl)) ?_
                  with_reducible refine (rubricref5_Add.calls kj10 t394 (fun k_ => ((k_ ≠ gb379 ∧ (k_ ≠ gb386 ∧ k_ ≠ gb393)) ∧ k_ ≠ gb410)) _ _ t395 t398 t399 (fun k_ => (k_ ≠ gb379 ∧ (k_ ≠ gb386 ∧ (k_ ≠ gb393 ∧ k_ ≠ gb410)))) _ _ t400 t403 t404 t405 t408 t409 _ ?side1 ?side2 A26.out).mono ?_
                  (case side1 => exact HO397.out)
                  (case side2 => exact HO402.out)
                  rintro e w61 ⟨v406, rfl, ho0, hb⟩
                  refine ⟨_, rfl, ?_⟩
                  have n0_ := Aside0.mk (Kd.V_elder' (S.v HO_380001.out) (Kd.R_base ho0) hb)
                  have n1_ := Aside0.mk (Kd.V_elder' (S.v HO_387001.out) (Kd.R_base ho0) hb)
                  have n2_ := Aside0.mk (Kd.V_elder' (S.v HO390.out) (Kd.R_base ho0) hb)
                  have n3_ := Aside0.mk (Kd.V_elder' (S.v HO397.out) (Kd.R_base ho0) hb)
                  have n4_ := Aside0.mk (Kd.V_elder' (S.v HO402.out) (Kd.R_base ho0) hb)
                  have n5_ := Aside0.mk (Kd.R_lower (Kd.R_mono (ok' := fun k_ => True) ho0 (fun _ hk_ => trivial)) (below_size (by repeat (first | (with_reducible first | exact HB.out | apply below_alloc | apply pw_below_drewN | apply below_drew1 | refine below_set ?_ GE379.out | refine below_set ?_ GE386.out | refine below_set ?_ GE393.out | refine below_set ?_ GE410.out) | exact HB.out))))
                  have n6_ := Aside0.mk (blk_below (g := gb379) (o := .cells #[.bool t373, .slice Ao15 t374.length co15, .int .i64 t377] 25 (0, 0)) (S.b BK379.out) hb)
                  have n7_ := Aside0.mk (blk_below (g := gb386) (o := .cells #[.bool t380, .slice Ao20 t381.length co20, .int .i64 t384] 25 (0, 0)) (S.b BK386.out) hb)
                  have n8_ := Aside0.mk (blk_below (g := gb393) (o := .cells #[.bool t387, .slice Ao53 t388.length co53, .int .i64 t391] 25 (0, 0)) (S.b BK393.out) hb)
                  have n9_ := Aside0.mk (blk_below (g := gb410) (o := .cells #[.bool false, .slice none 0 0, .int .i64 0] 36 (0, 0)) (S.b BK410.out) hb)
                  have n10_ := Aside0.mk (below_step (by repeat (first | (with_reducible first | exact HB.out | apply below_alloc | apply pw_below_drewN | apply below_drew1 | refine below_set ?_ GE379.out | refine below_set ?_ GE386.out | refine below_set ?_ GE393.out | refine below_set ?_ GE410.out) | exact HB.out)) hb)
                  clear HO_380001
                  clear HO_387001
                  clear HO390
                  clear HO397
                  clear HO402
                  clear BK379
                  clear BK386
                  clear BK393
                  clear BK410
                  clear HB
                  have HO_380001 := n0_
                  have HO_387001 := n1_
                  have HO390 := n2_
                  have HO397 := n3_
                  have HO402 := n4_
                  have HO407 := n5_
                  have BK379 := n6_
                  have BK386 := n7_
                  have BK393 := n8_
                  have BK410 := n9_
                  have HB := n10_
                  clear n0_ n1_ n2_ n3_ n4_ n5_ n6_ n7_ n8_ n9_ n10_
                  (try clear hb)
                  (try clear hb2)
                  (try clear hk)
                  (try clear hi)
                  (try clear ho0)
                  refine hK.out _ _ ⟨(blk_cell BK379.out 0).trans rfl, (blk_cell BK379.out 1).trans rfl, (blk_cell BK379.out 2).trans rfl, (blk_cell BK386.out 0).trans rfl, (blk_cell BK386.out 1).trans rfl, (blk_cell BK386.out 2).trans rfl⟩ (fun hHeld => ?_)
                  clear hK K
                  refine norm_ (a' := ?_) ?_ ?_
                  rotate_left
                  ·show Act.put _ (some 53) _ = _
                   simp only [Act.put, List.setIfInBounds_toArray, List.set_cons_zero, List.set_cons_succ, i64_w, i32_w]
                   rfl
                  refine pure_ (i := 5) (N := some 48) (v := ?_) (a' := ?_) #[true, true, true, true, true, true, false, false, true, false, false] rfl rfl (any_of HT_.out (by kernel_rfl)) (fun _ _ _ h => h) (Or.inl ⟨by rfl, ?_⟩) ?_ ?_
                  rotate_left
                  ·intro w'
                   go_simp
                   with_reducible rfl
                  rotate_left
                  ·simp only [Act.put, List.setIfInBounds_toArray, List.set_cons_zero, List.set_cons_succ, i64_w, i32_w]
                   rfl
                  refine pure_ (i := 6) (N := some 54) (v := ?_) (a' := ?_) #[true, true, true, true, true, true, true, false, true, false, false] rfl rfl (any_of HT_.out (by kernel_rfl)) (fun _ _ _ h => h) (Or.inl ⟨by rfl, ?_⟩) ?_ ?_
                  rotate_left
                  ·intro w'
                   go_simp
                   with_reducible rfl
                  rotate_left
                  ·simp only [Act.put, List.setIfInBounds_toArray, List.set_cons_zero, List.set_cons_succ, i64_w, i32_w]
                   rfl
                  refine pure_ (i := 7) (N := some 55) (v := ?_) (a' := ?_) #[true, true, true, true, true, true, true, true, true, false, false] rfl rfl (any_of HT_.out (by kernel_rfl)) (fun _ _ _ h => h) (Or.inl ⟨by rfl, ?_⟩) ?_ ?_
                  rotate_left
                  ·intro w'
                   go_simp
                   with_reducible rfl
                  rotate_left
                  ·simp only [Act.put, List.setIfInBounds_toArray, List.set_cons_zero, List.set_cons_succ, i64_w, i32_w]
                   rfl
                  exact norm_ (by simp only [putAll, Act.put, List.setIfInBounds_toArray, List.set_cons_zero, List.set_cons_succ]) (hCont (.slice Ao59 t395.length co59, .slice Ao60 t400.length co60, v406, gb410) _ ⟨hHeld, (by (with_reducible repeat (first | apply Kd.V_alloc | apply Kd.V_drewN | apply Kd.V_drew)); exact Kd.V_mono HO390.out (fun _ hk => ⟨hk.2, ⟨hk.1.1.1, ⟨hk.1.1.2.1, ⟨hk.1.1.2.2, hk.1.2⟩⟩⟩⟩)), (by (with_reducible repeat (first | apply Kd.V_alloc | apply Kd.V_drewN | apply Kd.V_drew)); exact Kd.V_mono HO397.out (fun _ hk => ⟨hk.2, ⟨hk.1.1.1, ⟨hk.1.1.2.1, ⟨hk.1.1.2.2, hk.1.2⟩⟩⟩⟩)), (by (with_reducible repeat (first | apply Kd.V_alloc | apply Kd.V_drewN | apply Kd.V_drew)); exact Kd.V_mono HO402.out (fun _ hk => ⟨hk.2, ⟨hk.1.1, ⟨hk.1.2.1, ⟨hk.1.2.2.1, hk.1.2.2.2⟩⟩⟩⟩)), (S.r HO407.out), (by (with_reducible repeat (first | apply Kd.V_alloc | apply Kd.V_drewN | apply Kd.V_drew)); exact Kd.V_mono HO_380001.out (fun _ hk => ⟨hk.2, ⟨hk.1.1.1, ⟨hk.1.1.2.1, ⟨hk.1.1.2.2, hk.1.2⟩⟩⟩⟩)), (by (with_reducible repeat (first | apply Kd.V_alloc | apply Kd.V_drewN | apply Kd.V_drew)); exact Kd.V_mono HO_387001.out (fun _ hk => ⟨hk.2, ⟨hk.1.1.1, ⟨hk.1.1.2.1, ⟨hk.1.1.2.2, hk.1.2⟩⟩⟩⟩)), (S.b BK379.out), (S.b BK386.out), (S.b BK393.out), (S.b BK410.out), GW410.out, GE410.out, NB379_410.out, NB410_379.out, NB386_410.out, NB410_386.out, NB393_410.out, NB410_393.out, (by repeat (first | (with_reducible first | exact HB.out | apply below_alloc | apply pw_below_drewN | apply below_drew1 | refine below_set ?_ GE379.out | refine below_set ?_ GE386.out | refine below_set ?_ GE393.out | refine below_set ?_ GE410.out) | exact HB.out))⟩)
                ·skip
                 refine box_step ?hg (N := 11) ?hd (cs := #[.bool false, .slice none 0 0, .int .i64 0]) (t := 36) ?hr ?_; (case hd => rfl); (case hg => rfl); (case hr => first | (go_simp; done) | (go_simp; rfl))
                 intro gb410 hg w56 hbox hb
                 have n0_ := Aside0.mk (Kd.V_below (Kd.V_elderB (S.v HO_380001.out) gb410 (Nat.le_of_eq hg.symm)) hb)
                 have n1_ := Aside0.mk (Kd.V_below (Kd.V_elderB (S.v HO_387001.out) gb410 (Nat.le_of_eq hg.symm)) hb)
                 have n2_ := Aside0.mk (Kd.V_below (Kd.V_elderB (S.v HO390.out) gb410 (Nat.le_of_eq hg.symm)) hb)
                 have n3_ := Aside0.mk (blk_below (g := gb379) (o := .cells #[.bool t373, .slice Ao15 t374.length co15, .int .i64 t377] 25 (0, 0)) (S.b BK379.out) hb)
                 have n4_ := Aside0.mk (blk_below (g := gb386) (o := .cells #[.bool t380, .slice Ao20 t381.length co20, .int .i64 t384] 25 (0, 0)) (S.b BK386.out) hb)
                 have n5_ := Aside0.mk (blk_below (g := gb393) (o := .cells #[.bool t387, .slice Ao53 t388.length co53, .int .i64 t391] 25 (0, 0)) (S.b BK393.out) hb)
                 have n6_ := Aside0.mk (below_step (by repeat (first | (with_reducible first | exact HB.out | apply below_alloc | apply pw_below_drewN | apply below_drew1 | refine below_set ?_ GE379.out | refine below_set ?_ GE386.out | refine below_set ?_ GE393.out) | exact HB.out)) hb)
                 have n7_ := Aside0.mk (hbox)
                 have n8_ := Aside0.mk ((by rw [hg]; exact (below_size (by repeat (first | (with_reducible first | exact HB.out | apply below_alloc | apply pw_below_drewN | apply below_drew1 | refine below_set ?_ GE379.out | refine below_set ?_ GE386.out | refine below_set ?_ GE393.out) | exact HB.out))) : w.heap.size ≤ gb410))
                 have n9_ := Aside0.mk ((by rw [hg]; exact (below_size (by repeat (first | (with_reducible first | exact HB.out | apply below_alloc | apply pw_below_drewN | apply below_drew1 | refine below_set ?_ GE379.out | refine below_set ?_ GE386.out | refine below_set ?_ GE393.out) | exact HB.out))) : w.heap.size ≤ gb410))
                 have n10_ := Aside0.mk ((by rw [hg]; exact Nat.ne_of_lt (blk_lt (g := gb379) (o := .cells #[.bool t373, .slice Ao15 t374.length co15, .int .i64 t377] 25 (0, 0)) (S.b BK379.out)) : gb379 ≠ gb410))
                 have n11_ := Aside0.mk ((by rw [hg]; exact Nat.ne_of_gt (blk_lt (g := gb379) (o := .cells #[.bool t373, .slice Ao15 t374.length co15, .int .i64 t377] 25 (0, 0)) (S.b BK379.out)) : gb410 ≠ gb379))
                 have n12_ := Aside0.mk ((by rw [hg]; exact Nat.ne_of_lt (blk_lt (g := gb386) (o := .cells #[.bool t380, .slice Ao20 t381.length co20, .int .i64 t384] 25 (0, 0)) (S.b BK386.out)) : gb386 ≠ gb410))
                 have n13_ := Aside0.mk ((by rw [hg]; exact Nat.ne_of_gt (blk_lt (g := gb386) (o := .cells #[.bool t380, .slice Ao20 t381.length co20, .int .i64 t384] 25 (0, 0)) (S.b BK386.out)) : gb410 ≠ gb386))
                 have n14_ := Aside0.mk ((by rw [hg]; exact Nat.ne_of_lt (blk_lt (g := gb393) (o := .cells #[.bool t387, .slice Ao53 t388.length co53, .int .i64 t391] 25 (0, 0)) (S.b BK393.out)) : gb393 ≠ gb410))
                 have n15_ := Aside0.mk ((by rw [hg]; exact Nat.ne_of_gt (blk_lt (g := gb393) (o := .cells #[.bool t387, .slice Ao53 t388.length co53, .int .i64 t391] 25 (0, 0)) (S.b BK393.out)) : gb410 ≠ gb393))
                 clear HO_380001
                 clear HO_387001
                 clear HO390
                 clear BK379
                 clear BK386
                 clear BK393
                 clear HB
                 have HO_380001 := n0_
                 have HO_387001 := n1_
                 have HO390 := n2_
                 have BK379 := n3_
                 have BK386 := n4_
                 have BK393 := n5_
                 have HB := n6_
                 have BK410 := n7_
                 have GW410 := n8_
                 have GE410 := n9_
                 have NB379_410 := n10_
                 have NB410_379 := n11_
                 have NB386_410 := n12_
                 have NB410_386 := n13_
                 have NB393_410 := n14_
                 have NB410_393 := n15_
                 clear n0_ n1_ n2_ n3_ n4_ n5_ n6_ n7_ n8_ n9_ n10_ n11_ n12_ n13_ n14_ n15_
                 clear hb hbox hg
                 refine hK.out _ _ ⟨(blk_cell BK379.out 0).trans rfl, (blk_cell BK379.out 1).trans rfl, (blk_cell BK379.out 2).trans rfl, (blk_cell BK386.out 0).trans rfl, (blk_cell BK386.out 1).trans rfl, (blk_cell BK386.out 2).trans rfl⟩ (fun hHeld => ?_)
                 clear hK K
                 refine norm_ (a' := ?_) ?_ ?_
                 rotate_left
                 ·show Act.put _ (some 11) _ = _
                  simp only [Act.put, List.setIfInBounds_toArray, List.set_cons_zero, List.set_cons_succ, i64_w, i32_w]
                  rfl
                 refine one_ (i := 1) (N := some 50) #[true, true, true, false, false, false, false, false, true, false, false] rfl rfl (one_of HT_.out (by kernel_rfl)) (by decide) (fun K hK => ?_)
                 refine goes_ Try.func15 (by kernel_rfl) rfl #[.agg #[.bool t373, .slice Ao15 t374.length co15, .int .i64 t377]] (by rfl) rfl rfl (by (try simp only [List.map_toArray, List.map_cons, List.map_nil]); first | done | rfl | (simp only [List.length_drop, List.length_take]; rfl)) ?_
                 with_reducible refine (rubriclaw5_Of.calls t373 (fun k_ => ((k_ ≠ gb379 ∧ (k_ ≠ gb386 ∧ k_ ≠ gb393)) ∧ k_ ≠ gb410)) _ _ t374 t377 t394 t395 t398 _ ?side1 A24.out).mono ?_
                 (case side1 => exact HO_380001.out)
                 rintro e w57 ⟨v396, rfl, ho0, hb⟩
                 refine ⟨_, rfl, ?_⟩
                 have n0_ := Aside0.mk (Kd.V_below (S.v HO_380001.out) hb)
                 have n1_ := Aside0.mk (Kd.V_below (S.v HO_387001.out) hb)
                 have n2_ := Aside0.mk (Kd.V_below (S.v HO390.out) hb)
                 have n3_ := Aside0.mk (Kd.V_lower (Kd.V_mono (ok' := fun k_ => k_ ≠ gb379 ∧ k_ ≠ gb386 ∧ k_ ≠ gb393 ∧ k_ ≠ gb410) ho0 (fun k_ hk_ => ⟨Or.elim hk_ (fun hs_ => hs_.1.1) (fun hn_ => (Kd.freshB (g := gb379) (o := .cells #[.bool t373, .slice Ao15 t374.length co15, .int .i64 t377] 25 (0, 0)) (S.b BK379.out) k_ hn_)), Or.elim hk_ (fun hs_ => hs_.1.2.1) (fun hn_ => (Kd.freshB (g := gb386) (o := .cells #[.bool t380, .slice Ao20 t381.length co20, .int .i64 t384] 25 (0, 0)) (S.b BK386.out) k_ hn_)), Or.elim hk_ (fun hs_ => hs_.1.2.2) (fun hn_ => (Kd.freshB (g := gb393) (o := .cells #[.bool t387, .slice Ao53 t388.length co53, .int .i64 t391] 25 (0, 0)) (S.b BK393.out) k_ hn_)), Or.elim hk_ (fun hs_ => hs_.2) (fun hn_ => (Kd.freshB (g := gb410) (o := .cells #[.bool false, .slice none 0 0, .int .i64 0] 36 (0, 0)) (S.b BK410.out) k_ hn_))⟩)) (below_size (by repeat (first | (with_reducible first | exact HB.out | apply below_alloc | apply pw_below_drewN | apply below_drew1 | refine below_set ?_ GE379.out | refine below_set ?_ GE386.out | refine below_set ?_ GE393.out | refine below_set ?_ GE410.out) | exact HB.out))))
                 have n4_ := Aside0.mk (blk_below (g := gb379) (o := .cells #[.bool t373, .slice Ao15 t374.length co15, .int .i64 t377] 25 (0, 0)) (S.b BK379.out) hb)
                 have n5_ := Aside0.mk (blk_below (g := gb386) (o := .cells #[.bool t380, .slice Ao20 t381.length co20, .int .i64 t384] 25 (0, 0)) (S.b BK386.out) hb)
                 have n6_ := Aside0.mk (blk_below (g := gb393) (o := .cells #[.bool t387, .slice Ao53 t388.length co53, .int .i64 t391] 25 (0, 0)) (S.b BK393.out) hb)
                 have n7_ := Aside0.mk (blk_below (g := gb410) (o := .cells #[.bool false, .slice none 0 0, .int .i64 0] 36 (0, 0)) (S.b BK410.out) hb)
                 have n8_ := Aside0.mk (below_step (by repeat (first | (with_reducible first | exact HB.out | apply below_alloc | apply pw_below_drewN | apply below_drew1 | refine below_set ?_ GE379.out | refine below_set ?_ GE386.out | refine below_set ?_ GE393.out | refine below_set ?_ GE410.out) | exact HB.out)) hb)
                 clear HO_380001
                 clear HO_387001
                 clear HO390
                 clear BK379
                 clear BK386
                 clear BK393
                 clear BK410
                 clear HB
                 have HO_380001 := n0_
                 have HO_387001 := n1_
                 have HO390 := n2_
                 have HO397 := n3_
                 have BK379 := n4_
                 have BK386 := n5_
                 have BK393 := n6_
                 have BK410 := n7_
                 have HB := n8_
                 clear n0_ n1_ n2_ n3_ n4_ n5_ n6_ n7_ n8_
                 (try clear hb)
                 (try clear hb2)
                 (try clear hk)
                 (try clear hi)
                 (try clear ho0)
                 refine hK.out _ _ ⟨(blk_cell BK379.out 0).trans rfl, (blk_cell BK379.out 1).trans rfl, (blk_cell BK379.out 2).trans rfl, (blk_cell BK386.out 0).trans rfl, (blk_cell BK386.out 1).trans rfl, (blk_cell BK386.out 2).trans rfl⟩ (fun hHeld => ?_)
                 clear hK K
                 refine norm_ (a' := ?_) ?_ ?_
                 rotate_left
                 ·show Act.put _ (some 50) _ = _
                  simp only [Act.put, List.setIfInBounds_toArray, List.set_cons_zero, List.set_cons_succ, i64_w, i32_w]
                  rfl
                 refine one_ (i := 3) (N := some 52) #[true, true, true, true, false, false, false, false, true, false, false] rfl rfl (one_of HT_.out (by kernel_rfl)) (by decide) (fun K hK => ?_)
                 refine goes_ Try.func15 (by kernel_rfl) rfl #[.agg #[.bool t380, .slice Ao20 t381.length co20, .int .i64 t384]] (by rfl) rfl rfl (by (try simp only [List.map_toArray, List.map_cons, List.map_nil]); first | done | rfl | (simp only [List.length_drop, List.length_take]; rfl)) ?_
                 with_reducible refine (rubriclaw5_Of.calls t380 (fun k_ => ((k_ ≠ gb379 ∧ (k_ ≠ gb386 ∧ k_ ≠ gb393)) ∧ k_ ≠ gb410)) _ _ t381 t384 t399 t400 t403 _ ?side1 A25.out).mono ?_
                 (case side1 => exact HO_387001.out)
                 rintro e w58 ⟨v401, rfl, ho0, hb⟩
                 refine ⟨_, rfl, ?_⟩
                 have n0_ := Aside0.mk (Kd.V_below (S.v HO_380001.out) hb)
                 have n1_ := Aside0.mk (Kd.V_below (S.v HO_387001.out) hb)
                 have n2_ := Aside0.mk (Kd.V_below (S.v HO390.out) hb)
                 have n3_ := Aside0.mk (Kd.V_below (S.v HO397.out) hb)
                 have n4_ := Aside0.mk (Kd.V_lower (Kd.V_mono (ok' := fun k_ => k_ ≠ gb379 ∧ k_ ≠ gb386 ∧ k_ ≠ gb393 ∧ k_ ≠ gb410) ho0 (fun k_ hk_ => ⟨Or.elim hk_ (fun hs_ => hs_.1.1) (fun hn_ => (Kd.freshB (g := gb379) (o := .cells #[.bool t373, .slice Ao15 t374.length co15, .int .i64 t377] 25 (0, 0)) (S.b BK379.out) k_ hn_)), Or.elim hk_ (fun hs_ => hs_.1.2.1) (fun hn_ => (Kd.freshB (g := gb386) (o := .cells #[.bool t380, .slice Ao20 t381.length co20, .int .i64 t384] 25 (0, 0)) (S.b BK386.out) k_ hn_)), Or.elim hk_ (fun hs_ => hs_.1.2.2) (fun hn_ => (Kd.freshB (g := gb393) (o := .cells #[.bool t387, .slice Ao53 t388.length co53, .int .i64 t391] 25 (0, 0)) (S.b BK393.out) k_ hn_)), Or.elim hk_ (fun hs_ => hs_.2) (fun hn_ => (Kd.freshB (g := gb410) (o := .cells #[.bool false, .slice none 0 0, .int .i64 0] 36 (0, 0)) (S.b BK410.out) k_ hn_))⟩)) (below_size (by repeat (first | (with_reducible first | exact HB.out | apply below_alloc | apply pw_below_drewN | apply below_drew1 | refine below_set ?_ GE379.out | refine below_set ?_ GE386.out | refine below_set ?_ GE393.out | refine below_set ?_ GE410.out) | exact HB.out))))
                 have n5_ := Aside0.mk (blk_below (g := gb379) (o := .cells #[.bool t373, .slice Ao15 t374.length co15, .int .i64 t377] 25 (0, 0)) (S.b BK379.out) hb)
                 have n6_ := Aside0.mk (blk_below (g := gb386) (o := .cells #[.bool t380, .slice Ao20 t381.length co20, .int .i64 t384] 25 (0, 0)) (S.b BK386.out) hb)
                 have n7_ := Aside0.mk (blk_below (g := gb393) (o := .cells #[.bool t387, .slice Ao53 t388.length co53, .int .i64 t391] 25 (0, 0)) (S.b BK393.out) hb)
                 have n8_ := Aside0.mk (blk_below (g := gb410) (o := .cells #[.bool false, .slice none 0 0, .int .i64 0] 36 (0, 0)) (S.b BK410.out) hb)
                 have n9_ := Aside0.mk (below_step (by repeat (first | (with_reducible first | exact HB.out | apply below_alloc | apply pw_below_drewN | apply below_drew1 | refine below_set ?_ GE379.out | refine below_set ?_ GE386.out | refine below_set ?_ GE393.out | refine below_set ?_ GE410.out) | exact HB.out)) hb)
                 clear HO_380001
                 clear HO_387001
                 clear HO390
                 clear HO397
                 clear BK379
                 clear BK386
                 clear BK393
                 clear BK410
                 clear HB
                 have HO_380001 := n0_
                 have HO_387001 := n1_
                 have HO390 := n2_
                 have HO397 := n3_
                 have HO402 := n4_
                 have BK379 := n5_
                 have BK386 := n6_
                 have BK393 := n7_
                 have BK410 := n8_
                 have HB := n9_
                 clear n0_ n1_ n2_ n3_ n4_ n5_ n6_ n7_ n8_ n9_
                 (try clear hb)
                 (try clear hb2)
                 (try clear hk)
                 (try clear hi)
                 (try clear ho0)
                 obtain ⟨Ao59, co59, eo59⟩ := Kd.V_slice HO397.out
                 (first | subst eo59 | (injection eo59 with f1_ f2_ f3_; have f4_ := f1_.symm; have f5_ := f3_.symm; clear f1_ f2_ f3_; subst f4_; subst f5_))
                 obtain ⟨Ao60, co60, eo60⟩ := Kd.V_slice HO402.out
                 (first | subst eo60 | (injection eo60 with f1_ f2_ f3_; have f4_ := f1_.symm; have f5_ := f3_.symm; clear f1_ f2_ f3_; subst f4_; subst f5_))
                 refine hK.out _ _ ⟨(blk_cell BK379.out 0).trans rfl, (blk_cell BK379.out 1).trans rfl, (blk_cell BK379.out 2).trans rfl, (blk_cell BK386.out 0).trans rfl, (blk_cell BK386.out 1).trans rfl, (blk_cell BK386.out 2).trans rfl⟩ (fun hHeld => ?_)
                 clear hK K
                 refine norm_ (a' := ?_) ?_ ?_
                 rotate_left
                 ·show Act.put _ (some 52) _ = _
                  simp only [Act.put, List.setIfInBounds_toArray, List.set_cons_zero, List.set_cons_succ, i64_w, i32_w]
                  rfl
                 refine one_ (i := 4) (N := some 53) #[true, true, true, true, true, false, false, false, true, false, false] rfl rfl (one_of HT_.out (by kernel_rfl)) (by decide) (fun K hK => ?_)
                 refine goes_ Try.func14 (by kernel_rfl) rfl #[.agg #[.bool t394, .slice Ao59 t395.length co59, .int .i64 t398], .agg #[.bool t399, .slice Ao60 t400.length co60, .int .i64 t403]] (by rfl) rfl rfl (by (try simp only [List.map_toArray, List.map_cons, List.map_nil]); first | done | rfl | (simp only [List.length_drop, List.length_take]; rfl)) ?_
                 with_reducible refine (rubricref5_Add.calls kj10 t394 (fun k_ => (k_ ≠ gb379 ∧ (k_ ≠ gb386 ∧ (k_ ≠ gb393 ∧ k_ ≠ gb410)))) _ _ t395 t398 t399 (fun k_ => (k_ ≠ gb379 ∧ (k_ ≠ gb386 ∧ (k_ ≠ gb393 ∧ k_ ≠ gb410)))) _ _ t400 t403 t404 t405 t408 t409 _ ?side1 ?side2 A26.out).mono ?_
                 (case side1 => exact HO397.out)
                 (case side2 => exact HO402.out)
                 rintro e w61 ⟨v406, rfl, ho0, hb⟩
                 refine ⟨_, rfl, ?_⟩
                 have n0_ := Aside0.mk (Kd.V_elder' (S.v HO_380001.out) (Kd.R_base ho0) hb)
                 have n1_ := Aside0.mk (Kd.V_elder' (S.v HO_387001.out) (Kd.R_base ho0) hb)
                 have n2_ := Aside0.mk (Kd.V_elder' (S.v HO390.out) (Kd.R_base ho0) hb)
                 have n3_ := Aside0.mk (Kd.V_elder' (S.v HO397.out) (Kd.R_base ho0) hb)
                 have n4_ := Aside0.mk (Kd.V_elder' (S.v HO402.out) (Kd.R_base ho0) hb)
                 have n5_ := Aside0.mk (Kd.R_lower (Kd.R_mono (ok' := fun k_ => True) ho0 (fun _ hk_ => trivial)) (below_size (by repeat (first | (with_reducible first | exact HB.out | apply below_alloc | apply pw_below_drewN | apply below_drew1 | refine below_set ?_ GE379.out | refine below_set ?_ GE386.out | refine below_set ?_ GE393.out | refine below_set ?_ GE410.out) | exact HB.out))))
                 have n6_ := Aside0.mk (blk_below (g := gb379) (o := .cells #[.bool t373, .slice Ao15 t374.length co15, .int .i64 t377] 25 (0, 0)) (S.b BK379.out) hb)
                 have n7_ := Aside0.mk (blk_below (g := gb386) (o := .cells #[.bool t380, .slice Ao20 t381.length co20, .int .i64 t384] 25 (0, 0)) (S.b BK386.out) hb)
                 have n8_ := Aside0.mk (blk_below (g := gb393) (o := .cells #[.bool t387, .slice Ao53 t388.length co53, .int .i64 t391] 25 (0, 0)) (S.b BK393.out) hb)
                 have n9_ := Aside0.mk (blk_below (g := gb410) (o := .cells #[.bool false, .slice none 0 0, .int .i64 0] 36 (0, 0)) (S.b BK410.out) hb)
                 have n10_ := Aside0.mk (below_step (by repeat (first | (with_reducible first | exact HB.out | apply below_alloc | apply pw_below_drewN | apply below_drew1 | refine below_set ?_ GE379.out | refine below_set ?_ GE386.out | refine below_set ?_ GE393.out | refine below_set ?_ GE410.out) | exact HB.out)) hb)
                 clear HO_380001
                 clear HO_387001
                 clear HO390
                 clear HO397
                 clear HO402
                 clear BK379
                 clear BK386
                 clear BK393
                 clear BK410
                 clear HB
                 have HO_380001 := n0_
                 have HO_387001 := n1_
                 have HO390 := n2_
                 have HO397 := n3_
                 have HO402 := n4_
                 have HO407 := n5_
                 have BK379 := n6_
                 have BK386 := n7_
                 have BK393 := n8_
                 have BK410 := n9_
                 have HB := n10_
                 clear n0_ n1_ n2_ n3_ n4_ n5_ n6_ n7_ n8_ n9_ n10_
                 (try clear hb)
                 (try clear hb2)
                 (try clear hk)
                 (try clear hi)
                 (try clear ho0)
                 refine hK.out _ _ ⟨(blk_cell BK379.out 0).trans rfl, (blk_cell BK379.out 1).trans rfl, (blk_cell BK379.out 2).trans rfl, (blk_cell BK386.out 0).trans rfl, (blk_cell BK386.out 1).trans rfl, (blk_cell BK386.out 2).trans rfl⟩ (fun hHeld => ?_)
                 clear hK K
                 refine norm_ (a' := ?_) ?_ ?_
                 rotate_left
                 ·show Act.put _ (some 53) _ = _
                  simp only [Act.put, List.setIfInBounds_toArray, List.set_cons_zero, List.set_cons_succ, i64_w, i32_w]
                  rfl
                 refine pure_ (i := 5) (N := some 48) (v := ?_) (a' := ?_) #[true, true, true, true, true, true, false, false, true, false, false] rfl rfl (any_of HT_.out (by kernel_rfl)) (fun _ _ _ h => h) (Or.inl ⟨by rfl, ?_⟩) ?_ ?_
                 rotate_left
                 ·intro w'
                  go_simp
                  with_reducible rfl
                 rotate_left
                 ·simp only [Act.put, List.setIfInBounds_toArray, List.set_cons_zero, List.set_cons_succ, i64_w, i32_w]
                  rfl
                 refine pure_ (i := 6) (N := some 54) (v := ?_) (a' := ?_) #[true, true, true, true, true, true, true, false, true, false, false] rfl rfl (any_of HT_.out (by kernel_rfl)) (fun _ _ _ h => h) (Or.inl ⟨by rfl, ?_⟩) ?_ ?_
                 rotate_left
                 ·intro w'
                  go_simp
                  with_reducible rfl
                 rotate_left
                 ·simp only [Act.put, List.setIfInBounds_toArray, List.set_cons_zero, List.set_cons_succ, i64_w, i32_w]
                  rfl
                 refine pure_ (i := 7) (N := some 55) (v := ?_) (a' := ?_) #[true, true, true, true, true, true, true, true, true, false, false] rfl rfl (any_of HT_.out (by kernel_rfl)) (fun _ _ _ h => h) (Or.inl ⟨by rfl, ?_⟩) ?_ ?_
                 rotate_left
                 ·intro w'
                  go_simp
                  with_reducible rfl
                 rotate_left
                 ·simp only [Act.put, List.setIfInBounds_toArray, List.set_cons_zero, List.set_cons_succ, i64_w, i32_w]
                  rfl
                 exact norm_ (by simp only [putAll, Act.put, List.setIfInBounds_toArray, List.set_cons_zero, List.set_cons_succ]) (hCont (.slice Ao59 t395.length co59, .slice Ao60 t400.length co60, v406, gb410) _ ⟨hHeld, (by (with_reducible repeat (first | apply Kd.V_alloc | apply Kd.V_drewN | apply Kd.V_drew)); exact Kd.V_mono HO390.out (fun _ hk => ⟨hk.2, ⟨hk.1.1.1, ⟨hk.1.1.2.1, ⟨hk.1.1.2.2, hk.1.2⟩⟩⟩⟩)), (by (with_reducible repeat (first | apply Kd.V_alloc | apply Kd.V_drewN | apply Kd.V_drew)); exact Kd.V_mono HO397.out (fun _ hk => ⟨hk.2, ⟨hk.1.1, ⟨hk.1.2.1, ⟨hk.1.2.2.1, hk.1.2.2.2⟩⟩⟩⟩)), (by (with_reducible repeat (first | apply Kd.V_alloc | apply Kd.V_drewN | apply Kd.V_drew)); exact Kd.V_mono HO402.out (fun _ hk => ⟨hk.2, ⟨hk.1.1, ⟨hk.1.2.1, ⟨hk.1.2.2.1, hk.1.2.2.2⟩⟩⟩⟩)), (S.r HO407.out), (by (with_reducible repeat (first | apply Kd.V_alloc | apply Kd.V_drewN | apply Kd.V_drew)); exact Kd.V_mono HO_380001.out (fun _ hk => ⟨hk.2, ⟨hk.1.1.1, ⟨hk.1.1.2.1, ⟨hk.1.1.2.2, hk.1.2⟩⟩⟩⟩)), (by (with_reducible repeat (first | apply Kd.V_alloc | apply Kd.V_drewN | apply Kd.V_drew)); exact Kd.V_mono HO_387001.out (fun _ hk => ⟨hk.2, ⟨hk.1.1.1, ⟨hk.1.1.2.1, ⟨hk.1.1.2.2, hk.1.2⟩⟩⟩⟩)), (S.b BK379.out), (S.b BK386.out), (S.b BK393.out), (S.b BK410.out), GW410.out, GE410.out, NB379_410.out, NB410_379.out, NB386_410.out, NB410_386.out, NB393_410.out, NB410_393.out, (by repeat (first | (with_reducible first | exact HB.out | apply below_alloc | apply pw_below_drewN | apply below_drew1 | refine below_set ?_ GE379.out | refine below_set ?_ GE386.out | refine below_set ?_ GE393.out | refine below_set ?_ GE410.out) | exact HB.out))⟩)
               rintro ⟨v396, v401, v406, gb410⟩ w62 ⟨hS_, h0_, h1_, h2_, h3_, h4_, h5_, h6_, h7_, h8_, h9_, h10_, h11_, h12_, h13_, h14_, h15_, h16_, h17_, h18_⟩
               have n0_ : Aside0 (Kd.V (Kd.int .u8) 5 w62 w.heap.size (fun k_ => some k_ ≠ (v406 : Value).ownBlock ∧ k_ ≠ gb379 ∧ k_ ≠ gb386 ∧ k_ ≠ gb393 ∧ k_ ≠ gb410) (.slice Ao53 t388.length co53) t388) := ⟨h0_⟩
               have n1_ : Aside0 (Kd.V (Kd.int .u8) 5 w62 w.heap.size (fun k_ => some k_ ≠ (v406 : Value).ownBlock ∧ k_ ≠ gb379 ∧ k_ ≠ gb386 ∧ k_ ≠ gb393 ∧ k_ ≠ gb410) v396 t395) := ⟨h1_⟩
               have n2_ : Aside0 (Kd.V (Kd.int .u8) 5 w62 w.heap.size (fun k_ => some k_ ≠ (v406 : Value).ownBlock ∧ k_ ≠ gb379 ∧ k_ ≠ gb386 ∧ k_ ≠ gb393 ∧ k_ ≠ gb410) v401 t400) := ⟨h2_⟩
               have n3_ : Aside0 (Kd.R (Kd.int .u8) 5 w62 w.heap.size (fun _ => True) v406 t405) := ⟨h3_⟩
               have n4_ : Aside0 (Kd.V (Kd.int .u8) 5 w62 w.heap.size (fun k_ => some k_ ≠ (v406 : Value).ownBlock ∧ k_ ≠ gb379 ∧ k_ ≠ gb386 ∧ k_ ≠ gb393 ∧ k_ ≠ gb410) (.slice Ao15 t374.length co15) t374) := ⟨h4_⟩
               have n5_ : Aside0 (Kd.V (Kd.int .u8) 5 w62 w.heap.size (fun k_ => some k_ ≠ (v406 : Value).ownBlock ∧ k_ ≠ gb379 ∧ k_ ≠ gb386 ∧ k_ ≠ gb393 ∧ k_ ≠ gb410) (.slice Ao20 t381.length co20) t381) := ⟨h5_⟩
               have n6_ : Aside0 (w62.heap[gb379]? = some (.cells #[.bool t373, .slice Ao15 t374.length co15, .int .i64 t377] 25 (0, 0))) := ⟨h6_⟩
               have n7_ : Aside0 (w62.heap[gb386]? = some (.cells #[.bool t380, .slice Ao20 t381.length co20, .int .i64 t384] 25 (0, 0))) := ⟨h7_⟩
               have n8_ : Aside0 (w62.heap[gb393]? = some (.cells #[.bool t387, .slice Ao53 t388.length co53, .int .i64 t391] 25 (0, 0))) := ⟨h8_⟩
               have n9_ : Aside0 (w62.heap[gb410]? = some (.cells #[.bool false, .slice none 0 0, .int .i64 0] 36 (0, 0))) := ⟨h9_⟩
               have n10_ : Aside0 (w.heap.size ≤ gb410) := ⟨h10_⟩
               have n11_ : Aside0 (w.heap.size ≤ gb410) := ⟨h11_⟩
               have n12_ : Aside0 (gb379 ≠ gb410) := ⟨h12_⟩
               have n13_ : Aside0 (gb410 ≠ gb379) := ⟨h13_⟩
               have n14_ : Aside0 (gb386 ≠ gb410) := ⟨h14_⟩
               have n15_ : Aside0 (gb410 ≠ gb386) := ⟨h15_⟩
               have n16_ : Aside0 (gb393 ≠ gb410) := ⟨h16_⟩
               have n17_ : Aside0 (gb410 ≠ gb393) := ⟨h17_⟩
               have n18_ : Aside0 (Below w.heap.size w w62) := ⟨h18_⟩
               clear HO_380001
               clear HO_387001
               clear HO390
               clear BK379
               clear BK386
               clear BK393
               clear HB
               clear h0_ h1_ h2_ h3_ h4_ h5_ h6_ h7_ h8_ h9_ h10_ h11_ h12_ h13_ h14_ h15_ h16_ h17_ h18_
               have HO390 := n0_
               have HO397 := n1_
               have HO402 := n2_
               have HO407 := n3_
               have HO_380001 := n4_
               have HO_387001 := n5_
               have BK379 := n6_
               have BK386 := n7_
               have BK393 := n8_
               have BK410 := n9_
               have GW410 := n10_
               have GE410 := n11_
               have NB379_410 := n12_
               have NB410_379 := n13_
               have NB386_410 := n14_
               have NB410_386 := n15_
               have NB393_410 := n16_
               have NB410_393 := n17_
               have HB := n18_
               clear n0_ n1_ n2_ n3_ n4_ n5_ n6_ n7_ n8_ n9_ n10_ n11_ n12_ n13_ n14_ n15_ n16_ n17_ n18_
               have hHeld : w62.cell? ⟨gb379, 0, none⟩ = some (.bool t373) ∧ w62.cell? ⟨gb379, 1, none⟩ = some (.slice Ao15 t374.length co15) ∧ w62.cell? ⟨gb379, 2, none⟩ = some (.int .i64 t377) ∧ w62.cell? ⟨gb386, 0, none⟩ = some (.bool t380) ∧ w62.cell? ⟨gb386, 1, none⟩ = some (.slice Ao20 t381.length co20) ∧ w62.cell? ⟨gb386, 2, none⟩ = some (.int .i64 t384) := hS_
               obtain ⟨Ao64, co64, eo64⟩ := Kd.R_slice HO407.out
               (first | subst eo64 | (injection eo64 with f1_ f2_ f3_; have f4_ := f1_.symm; have f5_ := f3_.symm; clear f1_ f2_ f3_; subst f4_; subst f5_))
               refine norm_ (a' := ?_) ?_ ?_
               rotate_left
               ·simp only [putAll, Act.put, List.setIfInBounds_toArray, List.set_cons_zero, List.set_cons_succ]
                rfl
               refine one_ (i := 9) (N := none) #[true, true, true, true, true, true, true, true, true, true, false] rfl rfl (one_of HT_.out (by kernel_rfl)) (by decide) (fun K hK => ?_)
               have hs63 : w62.cell? ⟨gb410, 0, none⟩ = some (.bool false) := (blk_cell BK410.out 0).trans rfl
               have hfs63 := blk_frozen BK410.out 0
               have hns63_0 := NB379_410.out
               have hns63_1 := NB386_410.out
               have hns63_2 := NB393_410.out
               have hms63_0 := NB410_379.out
               have hms63_1 := NB410_386.out
               have hms63_2 := NB410_393.out
               have hs65 : w62.cell? ⟨gb410, 1, none⟩ = some (.slice none 0 0) := (blk_cell BK410.out 1).trans rfl
               have hfs65 := blk_frozen BK410.out 1
               have hns65_0 := NB379_410.out
               have hns65_1 := NB386_410.out
               have hns65_2 := NB393_410.out
               have hms65_0 := NB410_379.out
               have hms65_1 := NB410_386.out
               have hms65_2 := NB410_393.out
               have hs66 : w62.cell? ⟨gb410, 2, none⟩ = some (.int .i64 0) := (blk_cell BK410.out 2).trans rfl
               have hfs66 := blk_frozen BK410.out 2
               have hns66_0 := NB379_410.out
               have hns66_1 := NB386_410.out
               have hns66_2 := NB393_410.out
               have hms66_0 := NB410_379.out
               have hms66_1 := NB410_386.out
               have hms66_2 := NB410_393.out
               refine skip_ (w1 := ?_) (by rfl) rfl ?_ ?_
               rotate_left
               ·go_simp
                rfl
               refine hK.out _ _ ⟨((cell_far (p := ⟨gb410, _, none⟩) NB379_410.out _).trans (((cell_far (p := ⟨gb410, _, none⟩) NB379_410.out _).trans (((cell_far (p := ⟨gb410, _, none⟩) NB379_410.out _).trans (hHeld.1)))))), ((cell_far (p := ⟨gb410, _, none⟩) NB379_410.out _).trans (((cell_far (p := ⟨gb410, _, none⟩) NB379_410.out _).trans (((cell_far (p := ⟨gb410, _, none⟩) NB379_410.out _).trans (hHeld.2.1)))))), ((cell_far (p := ⟨gb410, _, none⟩) NB379_410.out _).trans (((cell_far (p := ⟨gb410, _, none⟩) NB379_410.out _).trans (((cell_far (p := ⟨gb410, _, none⟩) NB379_410.out _).trans (hHeld.2.2.1)))))), ((cell_far (p := ⟨gb410, _, none⟩) NB386_410.out _).trans (((cell_far (p := ⟨gb410, _, none⟩) NB386_410.out _).trans (((cell_far (p := ⟨gb410, _, none⟩) NB386_410.out _).trans (hHeld.2.2.2.1)))))), ((cell_far (p := ⟨gb410, _, none⟩) NB386_410.out _).trans (((cell_far (p := ⟨gb410, _, none⟩) NB386_410.out _).trans (((cell_far (p := ⟨gb410, _, none⟩) NB386_410.out _).trans (hHeld.2.2.2.2.1)))))), ((cell_far (p := ⟨gb410, _, none⟩) NB386_410.out _).trans (((cell_far (p := ⟨gb410, _, none⟩) NB386_410.out _).trans (((cell_far (p := ⟨gb410, _, none⟩) NB386_410.out _).trans (hHeld.2.2.2.2.2))))))⟩ (fun hHeld => ?_)
               clear hK K
               refine pure_ (i := 10) (N := some 12) (v := ?_) (a' := ?_) #[true, true, true, true, true, true, true, true, true, true, true] rfl rfl (any_of HT_.out (by kernel_rfl)) (fun _ _ _ h => h) (Or.inl ⟨by rfl, ?_⟩) ?_ ?_
               rotate_left
               ·intro w'
                go_simp
                with_reducible rfl
               rotate_left
               ·simp only [Act.put, List.setIfInBounds_toArray, List.set_cons_zero, List.set_cons_succ, i64_w, i32_w]
                rfl
               refine done_ (done_of HT_.out (by kernel_rfl)) ?_
               have n0_ : Aside0 (Kd.V (Kd.int .u8) 5 (((w62.setCell ⟨gb410, 0, none⟩ (.bool t404)).setCell ⟨gb410, 1, none⟩ (.slice Ao64 t405.length co64)).setCell ⟨gb410, 2, none⟩ (.int .i64 t408)) w.heap.size (fun k_ => some k_ ≠ (.slice Ao64 t405.length co64 : Value).ownBlock ∧ k_ ≠ gb379 ∧ k_ ≠ gb386 ∧ k_ ≠ gb393 ∧ k_ ≠ gb410) (.slice Ao15 t374.length co15) t374) := ⟨by (with_reducible repeat (first | apply Kd.V_alloc | apply Kd.V_drewN | apply Kd.V_drew)); exact Kd.V_mono (Kd.V_far (p := ⟨gb410, 2, none⟩) (Kd.V_far (p := ⟨gb410, 1, none⟩) (Kd.V_far (p := ⟨gb410, 0, none⟩) (Kd.V_mono HO_380001.out (fun k_ hk => (⟨hk, hk.2.2.2.2⟩ : _ ∧ k_ ≠ gb410))) (fun _ hk => hk.2) (.bool t404)) (fun _ hk => hk.2) (.slice Ao64 t405.length co64)) (fun _ hk => hk.2) (.int .i64 t408)) (fun _ hk => ⟨hk.1.1, ⟨hk.1.2.1, ⟨hk.1.2.2.1, ⟨hk.1.2.2.2.1, hk.1.2.2.2.2⟩⟩⟩⟩)⟩
               have n1_ : Aside0 (Kd.V (Kd.int .u8) 5 (((w62.setCell ⟨gb410, 0, none⟩ (.bool t404)).setCell ⟨gb410, 1, none⟩ (.slice Ao64 t405.length co64)).setCell ⟨gb410, 2, none⟩ (.int .i64 t408)) w.heap.size (fun k_ => some k_ ≠ (.slice Ao64 t405.length co64 : Value).ownBlock ∧ k_ ≠ gb379 ∧ k_ ≠ gb386 ∧ k_ ≠ gb393 ∧ k_ ≠ gb410) (.slice Ao20 t381.length co20) t381) := ⟨by (with_reducible repeat (first | apply Kd.V_alloc | apply Kd.V_drewN | apply Kd.V_drew)); exact Kd.V_mono (Kd.V_far (p := ⟨gb410, 2, none⟩) (Kd.V_far (p := ⟨gb410, 1, none⟩) (Kd.V_far (p := ⟨gb410, 0, none⟩) (Kd.V_mono HO_387001.out (fun k_ hk => (⟨hk, hk.2.2.2.2⟩ : _ ∧ k_ ≠ gb410))) (fun _ hk => hk.2) (.bool t404)) (fun _ hk => hk.2) (.slice Ao64 t405.length co64)) (fun _ hk => hk.2) (.int .i64 t408)) (fun _ hk => ⟨hk.1.1, ⟨hk.1.2.1, ⟨hk.1.2.2.1, ⟨hk.1.2.2.2.1, hk.1.2.2.2.2⟩⟩⟩⟩)⟩
               have n2_ : Aside0 (Kd.V (Kd.int .u8) 5 (((w62.setCell ⟨gb410, 0, none⟩ (.bool t404)).setCell ⟨gb410, 1, none⟩ (.slice Ao64 t405.length co64)).setCell ⟨gb410, 2, none⟩ (.int .i64 t408)) w.heap.size (fun k_ => some k_ ≠ (.slice Ao64 t405.length co64 : Value).ownBlock ∧ k_ ≠ gb379 ∧ k_ ≠ gb386 ∧ k_ ≠ gb393 ∧ k_ ≠ gb410) (.slice Ao53 t388.length co53) t388) := ⟨by (with_reducible repeat (first | apply Kd.V_alloc | apply Kd.V_drewN | apply Kd.V_drew)); exact Kd.V_mono (Kd.V_far (p := ⟨gb410, 2, none⟩) (Kd.V_far (p := ⟨gb410, 1, none⟩) (Kd.V_far (p := ⟨gb410, 0, none⟩) (Kd.V_mono HO390.out (fun k_ hk => (⟨hk, hk.2.2.2.2⟩ : _ ∧ k_ ≠ gb410))) (fun _ hk => hk.2) (.bool t404)) (fun _ hk => hk.2) (.slice Ao64 t405.length co64)) (fun _ hk => hk.2) (.int .i64 t408)) (fun _ hk => ⟨hk.1.1, ⟨hk.1.2.1, ⟨hk.1.2.2.1, ⟨hk.1.2.2.2.1, hk.1.2.2.2.2⟩⟩⟩⟩)⟩
               have n3_ : Aside0 (Kd.V (Kd.int .u8) 5 (((w62.setCell ⟨gb410, 0, none⟩ (.bool t404)).setCell ⟨gb410, 1, none⟩ (.slice Ao64 t405.length co64)).setCell ⟨gb410, 2, none⟩ (.int .i64 t408)) w.heap.size (fun k_ => some k_ ≠ (.slice Ao64 t405.length co64 : Value).ownBlock ∧ k_ ≠ gb379 ∧ k_ ≠ gb386 ∧ k_ ≠ gb393 ∧ k_ ≠ gb410) v396 t395) := ⟨by (with_reducible repeat (first | apply Kd.V_alloc | apply Kd.V_drewN | apply Kd.V_drew)); exact Kd.V_mono (Kd.V_far (p := ⟨gb410, 2, none⟩) (Kd.V_far (p := ⟨gb410, 1, none⟩) (Kd.V_far (p := ⟨gb410, 0, none⟩) (Kd.V_mono HO397.out (fun k_ hk => (⟨hk, hk.2.2.2.2⟩ : _ ∧ k_ ≠ gb410))) (fun _ hk => hk.2) (.bool t404)) (fun _ hk => hk.2) (.slice Ao64 t405.length co64)) (fun _ hk => hk.2) (.int .i64 t408)) (fun _ hk => ⟨hk.1.1, ⟨hk.1.2.1, ⟨hk.1.2.2.1, ⟨hk.1.2.2.2.1, hk.1.2.2.2.2⟩⟩⟩⟩)⟩
               have n4_ : Aside0 (Kd.V (Kd.int .u8) 5 (((w62.setCell ⟨gb410, 0, none⟩ (.bool t404)).setCell ⟨gb410, 1, none⟩ (.slice Ao64 t405.length co64)).setCell ⟨gb410, 2, none⟩ (.int .i64 t408)) w.heap.size (fun k_ => some k_ ≠ (.slice Ao64 t405.length co64 : Value).ownBlock ∧ k_ ≠ gb379 ∧ k_ ≠ gb386 ∧ k_ ≠ gb393 ∧ k_ ≠ gb410) v401 t400) := ⟨by (with_reducible repeat (first | apply Kd.V_alloc | apply Kd.V_drewN | apply Kd.V_drew)); exact Kd.V_mono (Kd.V_far (p := ⟨gb410, 2, none⟩) (Kd.V_far (p := ⟨gb410, 1, none⟩) (Kd.V_far (p := ⟨gb410, 0, none⟩) (Kd.V_mono HO402.out (fun k_ hk => (⟨hk, hk.2.2.2.2⟩ : _ ∧ k_ ≠ gb410))) (fun _ hk => hk.2) (.bool t404)) (fun _ hk => hk.2) (.slice Ao64 t405.length co64)) (fun _ hk => hk.2) (.int .i64 t408)) (fun _ hk => ⟨hk.1.1, ⟨hk.1.2.1, ⟨hk.1.2.2.1, ⟨hk.1.2.2.2.1, hk.1.2.2.2.2⟩⟩⟩⟩)⟩
               have n5_ : Aside0 (Kd.R (Kd.int .u8) 5 (((w62.setCell ⟨gb410, 0, none⟩ (.bool t404)).setCell ⟨gb410, 1, none⟩ (.slice Ao64 t405.length co64)).setCell ⟨gb410, 2, none⟩ (.int .i64 t408)) w.heap.size (fun _ => True) (.slice Ao64 t405.length co64) t405) := ⟨by (with_reducible repeat (first | apply Kd.R_alloc | apply Kd.R_drewN | apply Kd.R_drew)); exact Kd.R_mono (Kd.R_far (p := ⟨gb410, 2, none⟩) (Kd.R_far (p := ⟨gb410, 1, none⟩) (Kd.R_far (p := ⟨gb410, 0, none⟩) (Kd.R_types HO407.out BK410.out (by decide)) (fun _ hk => hk.2) (.bool t404)) (fun _ hk => hk.2) (.slice Ao64 t405.length co64)) (fun _ hk => hk.2) (.int .i64 t408)) (fun _ hk => trivial)⟩
               have n6_ : Aside0 ((((w62.setCell ⟨gb410, 0, none⟩ (.bool t404)).setCell ⟨gb410, 1, none⟩ (.slice Ao64 t405.length co64)).setCell ⟨gb410, 2, none⟩ (.int .i64 t408)).heap[gb379]? = some (.cells #[.bool t373, .slice Ao15 t374.length co15, .int .i64 t377] 25 (0, 0))) := ⟨by (with_reducible repeat (first | refine blk_drewN ?_ _ | refine blk_drew ?_ | refine blk_alloc ?_ _)); refine blk_far ?_ NB379_410.out _; (with_reducible repeat (first | refine blk_drewN ?_ _ | refine blk_drew ?_ | refine blk_alloc ?_ _)); refine blk_far ?_ NB379_410.out _; (with_reducible repeat (first | refine blk_drewN ?_ _ | refine blk_drew ?_ | refine blk_alloc ?_ _)); refine blk_far ?_ NB379_410.out _; (with_reducible repeat (first | refine blk_drewN ?_ _ | refine blk_drew ?_ | refine blk_alloc ?_ _)); exact BK379.out⟩
               have n7_ : Aside0 ((((w62.setCell ⟨gb410, 0, none⟩ (.bool t404)).setCell ⟨gb410, 1, none⟩ (.slice Ao64 t405.length co64)).setCell ⟨gb410, 2, none⟩ (.int .i64 t408)).heap[gb386]? = some (.cells #[.bool t380, .slice Ao20 t381.length co20, .int .i64 t384] 25 (0, 0))) := ⟨by (with_reducible repeat (first | refine blk_drewN ?_ _ | refine blk_drew ?_ | refine blk_alloc ?_ _)); refine blk_far ?_ NB386_410.out _; (with_reducible repeat (first | refine blk_drewN ?_ _ | refine blk_drew ?_ | refine blk_alloc ?_ _)); refine blk_far ?_ NB386_410.out _; (with_reducible repeat (first | refine blk_drewN ?_ _ | refine blk_drew ?_ | refine blk_alloc ?_ _)); refine blk_far ?_ NB386_410.out _; (with_reducible repeat (first | refine blk_drewN ?_ _ | refine blk_drew ?_ | refine blk_alloc ?_ _)); exact BK386.out⟩
               have n8_ : Aside0 ((((w62.setCell ⟨gb410, 0, none⟩ (.bool t404)).setCell ⟨gb410, 1, none⟩ (.slice Ao64 t405.length co64)).setCell ⟨gb410, 2, none⟩ (.int .i64 t408)).heap[gb393]? = some (.cells #[.bool t387, .slice Ao53 t388.length co53, .int .i64 t391] 25 (0, 0))) := ⟨by (with_reducible repeat (first | refine blk_drewN ?_ _ | refine blk_drew ?_ | refine blk_alloc ?_ _)); refine blk_far ?_ NB393_410.out _; (with_reducible repeat (first | refine blk_drewN ?_ _ | refine blk_drew ?_ | refine blk_alloc ?_ _)); refine blk_far ?_ NB393_410.out _; (with_reducible repeat (first | refine blk_drewN ?_ _ | refine blk_drew ?_ | refine blk_alloc ?_ _)); refine blk_far ?_ NB393_410.out _; (with_reducible repeat (first | refine blk_drewN ?_ _ | refine blk_drew ?_ | refine blk_alloc ?_ _)); exact BK393.out⟩
               have n9_ : Aside0 ((((w62.setCell ⟨gb410, 0, none⟩ (.bool t404)).setCell ⟨gb410, 1, none⟩ (.slice Ao64 t405.length co64)).setCell ⟨gb410, 2, none⟩ (.int .i64 t408)).heap[gb410]? = some (.cells #[.bool t404, .slice Ao64 t405.length co64, .int .i64 t408] 36 (0, 0))) := ⟨by (with_reducible repeat (first | refine blk_drewN ?_ _ | refine blk_drew ?_ | refine blk_alloc ?_ _)); refine blk_put (cs := #[.bool t404, .slice Ao64 t405.length co64, .int .i64 0]) ?_ 2 _ rfl; (with_reducible repeat (first | refine blk_drewN ?_ _ | refine blk_drew ?_ | refine blk_alloc ?_ _)); refine blk_put (cs := #[.bool t404, .slice none 0 0, .int .i64 0]) ?_ 1 _ rfl; (with_reducible repeat (first | refine blk_drewN ?_ _ | refine blk_drew ?_ | refine blk_alloc ?_ _)); refine blk_put (cs := #[.bool false, .slice none 0 0, .int .i64 0]) ?_ 0 _ rfl; (with_reducible repeat (first | refine blk_drewN ?_ _ | refine blk_drew ?_ | refine blk_alloc ?_ _)); exact BK410.out⟩
               have n10_ : Aside0 (Below w.heap.size w (((w62.setCell ⟨gb410, 0, none⟩ (.bool t404)).setCell ⟨gb410, 1, none⟩ (.slice Ao64 t405.length co64)).setCell ⟨gb410, 2, none⟩ (.int .i64 t408))) := ⟨by repeat (first | (with_reducible first | exact HB.out | apply below_alloc | apply pw_below_drewN | apply below_drew1 | refine below_set ?_ GE379.out | refine below_set ?_ GE386.out | refine below_set ?_ GE393.out | refine below_set ?_ GE410.out) | exact HB.out)⟩
               (try clear HO_380001)
               (try clear HO_387001)
               (try clear HO390)
               (try clear HO397)
               (try clear HO402)
               (try clear HO407)
               (try clear BK379)
               (try clear BK386)
               (try clear BK393)
               (try clear BK410)
               (try clear HB)
               generalize (((w62.setCell ⟨gb410, 0, none⟩ (.bool t404)).setCell ⟨gb410, 1, none⟩ (.slice Ao64 t405.length co64)).setCell ⟨gb410, 2, none⟩ (.int .i64 t408)) = w67 at n0_ n1_ n2_ n3_ n4_ n5_ n6_ n7_ n8_ n9_ n10_ ⊢
               have HO_380001 := n0_
               have HO_387001 := n1_
               have HO390 := n2_
               have HO397 := n3_
               have HO402 := n4_
               have HO407 := n5_
               have BK379 := n6_
               have BK386 := n7_
               have BK393 := n8_
               have BK410 := n9_
               have HB := n10_
               clear n0_ n1_ n2_ n3_ n4_ n5_ n6_ n7_ n8_ n9_ n10_
               have hnb68 := NB386_410.out
               have hnc68 := NB410_386.out
               have hcz69_0 : w67.cell? ⟨gb386, 0, none⟩ = some (.bool t380) := (blk_cell BK386.out 0).trans rfl
               have hcz69_1 : w67.cell? ⟨gb386, 1, none⟩ = some (.slice Ao20 t381.length co20) := (blk_cell BK386.out 1).trans rfl
               have hcz69_2 : w67.cell? ⟨gb386, 2, none⟩ = some (.int .i64 t384) := (blk_cell BK386.out 2).trans rfl
               have hfz69_0 := blk_frozen BK386.out 0
               have hfz69_1 := blk_frozen BK386.out 1
               have hfz69_2 := blk_frozen BK386.out 2
               have hnb70 := NB379_410.out
               have hnc70 := NB410_379.out
               have hcz71_0 : w67.cell? ⟨gb379, 0, none⟩ = some (.bool t373) := (blk_cell BK379.out 0).trans rfl
               have hcz71_1 : w67.cell? ⟨gb379, 1, none⟩ = some (.slice Ao15 t374.length co15) := (blk_cell BK379.out 1).trans rfl
               have hcz71_2 : w67.cell? ⟨gb379, 2, none⟩ = some (.int .i64 t377) := (blk_cell BK379.out 2).trans rfl
               have hfz71_0 := blk_frozen BK379.out 0
               have hfz71_1 := blk_frozen BK379.out 1
               have hfz71_2 := blk_frozen BK379.out 2
               try go_wp2_with (first | ((with_reducible refine gate_callee (f := 12) rfl ?_); refine goesL_ (some 59) rfl rfl Try.func12 (by kernel_rfl) rfl #[.agg #[.bool t380, .slice Ao20 t381.length co20, .int .i64 t384], .agg #[.bool t373, .slice Ao15 t374.length co15, .int .i64 t377]] rfl (by (try simp only [List.map_toArray, List.map_cons, List.map_nil]); first | done | rfl | (simp only [List.length_drop, List.length_take]; rfl)) ?_; (with_reducible refine (dec_Add.calls kj10 t380 (fun k_ => (some k_ ≠ (.slice Ao64 t405.length co64 : Value).ownBlock ∧ (k_ ≠ gb379 ∧ (k_ ≠ gb386 ∧ (k_ ≠ gb393 ∧ k_ ≠ gb410))))) _ _ t381 t384 t373 (fun k_ => (some k_ ≠ (.slice Ao64 t405.length co64 : Value).ownBlock ∧ (k_ ≠ gb379 ∧ (k_ ≠ gb386 ∧ (k_ ≠ gb393 ∧ k_ ≠ gb410))))) _ _ t374 t377 t411 t412 t415 t416 _ ?side1 ?side2 A27.out).mono ?_); (case side1 => exact HO_387001.out); (case side2 => exact HO_380001.out); rintro e w72 ⟨v413, rfl, ho0, hb⟩; refine ⟨_, rfl, ?_⟩; have n0_ := Aside0.mk (Kd.V_below (S.v HO_380001.out) hb); have n1_ := Aside0.mk (Kd.V_below (S.v HO_387001.out) hb); have n2_ := Aside0.mk (Kd.V_below (S.v HO390.out) hb); have n3_ := Aside0.mk (Kd.V_below (S.v HO397.out) hb); have n4_ := Aside0.mk (Kd.V_below (S.v HO402.out) hb); have n5_ := Aside0.mk (Kd.R_below (S.r HO407.out) hb); have n6_ := Aside0.mk (Kd.V_lower (Kd.V_mono (ok' := fun k_ => some k_ ≠ (.slice Ao64 t405.length co64 : Value).ownBlock ∧ k_ ≠ gb379 ∧ k_ ≠ gb386 ∧ k_ ≠ gb393 ∧ k_ ≠ gb410) ho0 (fun k_ hk_ => ⟨Or.elim hk_ (fun hs_ => Or.elim hs_ (fun hs_ => hs_.1) (fun hs_ => hs_.1)) (fun hn_ => (Kd.fresh' (Kd.R_lt (S.r HO407.out)) k_ hn_)), Or.elim hk_ (fun hs_ => Or.elim hs_ (fun hs_ => hs_.2.1) (fun hs_ => hs_.2.1)) (fun hn_ => (Kd.freshB (g := gb379) (o := .cells #[.bool t373, .slice Ao15 t374.length co15, .int .i64 t377] 25 (0, 0)) (S.b BK379.out) k_ hn_)), Or.elim hk_ (fun hs_ => Or.elim hs_ (fun hs_ => hs_.2.2.1) (fun hs_ => hs_.2.2.1)) (fun hn_ => (Kd.freshB (g := gb386) (o := .cells #[.bool t380, .slice Ao20 t381.length co20, .int .i64 t384] 25 (0, 0)) (S.b BK386.out) k_ hn_)), Or.elim hk_ (fun hs_ => Or.elim hs_ (fun hs_ => hs_.2.2.2.1) (fun hs_ => hs_.2.2.2.1)) (fun hn_ => (Kd.freshB (g := gb393) (o := .cells #[.bool t387, .slice Ao53 t388.length co53, .int .i64 t391] 25 (0, 0)) (S.b BK393.out) k_ hn_)), Or.elim hk_ (fun hs_ => Or.elim hs_ (fun hs_ => hs_.2.2.2.2) (fun hs_ => hs_.2.2.2.2)) (fun hn_ => (Kd.freshB (g := gb410) (o := .cells #[.bool t404, .slice Ao64 t405.length co64, .int .i64 t408] 36 (0, 0)) (S.b BK410.out) k_ hn_))⟩)) (below_size (by repeat (first | (with_reducible first | exact HB.out | apply below_alloc | apply pw_below_drewN | apply below_drew1 | refine below_set ?_ GE379.out | refine below_set ?_ GE386.out | refine below_set ?_ GE393.out | refine below_set ?_ GE410.out) | exact HB.out)))); have n7_ := Aside0.mk (blk_below (g := gb379) (o := .cells #[.bool t373, .slice Ao15 t374.length co15, .int .i64 t377] 25 (0, 0)) (S.b BK379.out) hb); have n8_ := Aside0.mk (blk_below (g := gb386) (o := .cells #[.bool t380, .slice Ao20 t381.length co20, .int .i64 t384] 25 (0, 0)) (S.b BK386.out) hb); have n9_ := Aside0.mk (blk_below (g := gb393) (o := .cells #[.bool t387, .slice Ao53 t388.length co53, .int .i64 t391] 25 (0, 0)) (S.b BK393.out) hb); have n10_ := Aside0.mk (blk_below (g := gb410) (o := .cells #[.bool t404, .slice Ao64 t405.length co64, .int .i64 t408] 36 (0, 0)) (S.b BK410.out) hb); have n11_ := Aside0.mk (below_step (by repeat (first | (with_reducible first | exact HB.out | apply below_alloc | apply pw_below_drewN | apply below_drew1 | refine below_set ?_ GE379.out | refine below_set ?_ GE386.out | refine below_set ?_ GE393.out | refine below_set ?_ GE410.out) | exact HB.out)) hb); clear HO_380001; clear HO_387001; clear HO390; clear HO397; clear HO402; clear HO407; clear BK379; clear BK386; clear BK393; clear BK410; clear HB; have HO_380001 := n0_; have HO_387001 := n1_; have HO390 := n2_; have HO397 := n3_; have HO402 := n4_; have HO407 := n5_; have HO414 := n6_; have BK379 := n7_; have BK386 := n8_; have BK393 := n9_; have BK410 := n10_; have HB := n11_; clear n0_ n1_ n2_ n3_ n4_ n5_ n6_ n7_ n8_ n9_ n10_ n11_; (try clear hb); (try clear hb2); (try clear hk); (try clear hi); (try clear ho0)) | ((with_reducible refine gate_dst (N := 13) rfl ?_); (try (refine gate_guard (by rfl) ?_; dsimp only)); refine box_event ?hg (N := 13) ?hd (cs := #[.bool false, .slice none 0 0, .int .i64 0]) (t := 25) ?hr ?_; (case hd => rfl); (case hg => rfl); (case hr => first | (go_simp; done) | (go_simp; rfl)); intro gb417 hg w73 hbox hb; have n0_ := Aside0.mk (Kd.V_below (Kd.V_elderB (S.v HO_380001.out) gb417 (Nat.le_of_eq hg.symm)) hb); have n1_ := Aside0.mk (Kd.V_below (Kd.V_elderB (S.v HO_387001.out) gb417 (Nat.le_of_eq hg.symm)) hb); have n2_ := Aside0.mk (Kd.V_below (Kd.V_elderB (S.v HO390.out) gb417 (Nat.le_of_eq hg.symm)) hb); have n3_ := Aside0.mk (Kd.V_below (Kd.V_elderB (S.v HO397.out) gb417 (Nat.le_of_eq hg.symm)) hb); have n4_ := Aside0.mk (Kd.V_below (Kd.V_elderB (S.v HO402.out) gb417 (Nat.le_of_eq hg.symm)) hb); have n5_ := Aside0.mk (Kd.R_below (S.r HO407.out) hb); have n6_ := Aside0.mk (Kd.V_below (Kd.V_elderB (S.v HO414.out) gb417 (Nat.le_of_eq hg.symm)) hb); have n7_ := Aside0.mk (blk_below (g := gb379) (o := .cells #[.bool t373, .slice Ao15 t374.length co15, .int .i64 t377] 25 (0, 0)) (S.b BK379.out) hb); have n8_ := Aside0.mk (blk_below (g := gb386) (o := .cells #[.bool t380, .slice Ao20 t381.length co20, .int .i64 t384] 25 (0, 0)) (S.b BK386.out) hb); have n9_ := Aside0.mk (blk_below (g := gb393) (o := .cells #[.bool t387, .slice Ao53 t388.length co53, .int .i64 t391] 25 (0, 0)) (S.b BK393.out) hb); have n10_ := Aside0.mk (blk_below (g := gb410) (o := .cells #[.bool t404, .slice Ao64 t405.length co64, .int .i64 t408] 36 (0, 0)) (S.b BK410.out) hb); have n11_ := Aside0.mk (below_step (by repeat (first | (with_reducible first | exact HB.out | apply below_alloc | apply pw_below_drewN | apply below_drew1 | refine below_set ?_ GE379.out | refine below_set ?_ GE386.out | refine below_set ?_ GE393.out | refine below_set ?_ GE410.out) | exact HB.out)) hb); have n12_ := Aside0.mk (hbox); have n13_ := Aside0.mk ((by rw [hg]; exact (below_size (by repeat (first | (with_reducible first | exact HB.out | apply below_alloc | apply pw_below_drewN | apply below_drew1 | refine below_set ?_ GE379.out | refine below_set ?_ GE386.out | refine below_set ?_ GE393.out | refine below_set ?_ GE410.out) | exact HB.out))) : w.heap.size ≤ gb417)); have n14_ := Aside0.mk ((by rw [hg]; exact (below_size (by repeat (first | (with_reducible first | exact HB.out | apply below_alloc | apply pw_below_drewN | apply below_drew1 | refine below_set ?_ GE379.out | refine below_set ?_ GE386.out | refine below_set ?_ GE393.out | refine below_set ?_ GE410.out) | exact HB.out))) : w.heap.size ≤ gb417)); have n15_ := Aside0.mk ((by rw [hg]; exact Nat.ne_of_lt (blk_lt (g := gb379) (o := .cells #[.bool t373, .slice Ao15 t374.length co15, .int .i64 t377] 25 (0, 0)) (S.b BK379.out)) : gb379 ≠ gb417)); have n16_ := Aside0.mk ((by rw [hg]; exact Nat.ne_of_gt (blk_lt (g := gb379) (o := .cells #[.bool t373, .slice Ao15 t374.length co15, .int .i64 t377] 25 (0, 0)) (S.b BK379.out)) : gb417 ≠ gb379)); have n17_ := Aside0.mk ((by rw [hg]; exact Nat.ne_of_lt (blk_lt (g := gb386) (o := .cells #[.bool t380, .slice Ao20 t381.length co20, .int .i64 t384] 25 (0, 0)) (S.b BK386.out)) : gb386 ≠ gb417)); have n18_ := Aside0.mk ((by rw [hg]; exact Nat.ne_of_gt (blk_lt (g := gb386) (o := .cells #[.bool t380, .slice Ao20 t381.length co20, .int .i64 t384] 25 (0, 0)) (S.b BK386.out)) : gb417 ≠ gb386)); have n19_ := Aside0.mk ((by rw [hg]; exact Nat.ne_of_lt (blk_lt (g := gb393) (o := .cells #[.bool t387, .slice Ao53 t388.length co53, .int .i64 t391] 25 (0, 0)) (S.b BK393.out)) : gb393 ≠ gb417)); have n20_ := Aside0.mk ((by rw [hg]; exact Nat.ne_of_gt (blk_lt (g := gb393) (o := .cells #[.bool t387, .slice Ao53 t388.length co53, .int .i64 t391] 25 (0, 0)) (S.b BK393.out)) : gb417 ≠ gb393)); have n21_ := Aside0.mk ((by rw [hg]; exact Nat.ne_of_lt (blk_lt (g := gb410) (o := .cells #[.bool t404, .slice Ao64 t405.length co64, .int .i64 t408] 36 (0, 0)) (S.b BK410.out)) : gb410 ≠ gb417)); have n22_ := Aside0.mk ((by rw [hg]; exact Nat.ne_of_gt (blk_lt (g := gb410) (o := .cells #[.bool t404, .slice Ao64 t405.length co64, .int .i64 t408] 36 (0, 0)) (S.b BK410.out)) : gb417 ≠ gb410)); clear HO_380001; clear HO_387001; clear HO390; clear HO397; clear HO402; clear HO407; clear HO414; clear BK379; clear BK386; clear BK393; clear BK410; clear HB; have HO_380001 := n0_; have HO_387001 := n1_; have HO390 := n2_; have HO397 := n3_; have HO402 := n4_; have HO407 := n5_; have HO414 := n6_; have BK379 := n7_; have BK386 := n8_; have BK393 := n9_; have BK410 := n10_; have HB := n11_; have BK417 := n12_; have GW417 := n13_; have GE417 := n14_; have NB379_417 := n15_; have NB417_379 := n16_; have NB386_417 := n17_; have NB417_386 := n18_; have NB393_417 := n19_; have NB417_393 := n20_; have NB410_417 := n21_; have NB417_410 := n22_; clear n0_ n1_ n2_ n3_ n4_ n5_ n6_ n7_ n8_ n9_ n10_ n11_ n12_ n13_ n14_ n15_ n16_ n17_ n18_ n19_ n20_ n21_ n22_; clear hb hbox hg; have hnb74 := NB417_379.out; have hnc74 := NB379_417.out; have hnb75 := NB417_386.out; have hnc75 := NB386_417.out; have hnb76 := NB417_393.out; have hnc76 := NB393_417.out; have hnb77 := NB417_410.out; have hnc77 := NB410_417.out; have hcz78_0 : w73.cell? ⟨gb417, 0, none⟩ = some (.bool false) := (blk_cell BK417.out 0).trans rfl; have hcz78_1 : w73.cell? ⟨gb417, 1, none⟩ = some (.slice none 0 0) := (blk_cell BK417.out 1).trans rfl; have hcz78_2 : w73.cell? ⟨gb417, 2, none⟩ = some (.int .i64 0) := (blk_cell BK417.out 2).trans rfl; have hfz78_0 := blk_frozen BK417.out 0; have hfz78_1 := blk_frozen BK417.out 1; have hfz78_2 := blk_frozen BK417.out 2; obtain ⟨Ao79, co79, eo79⟩ := Kd.V_slice HO414.out; subst eo79; have hcz80_0 : w73.cell? ⟨gb379, 0, none⟩ = some (.bool t373) := (blk_cell BK379.out 0).trans rfl; have hcz80_1 : w73.cell? ⟨gb379, 1, none⟩ = some (.slice Ao15 t374.length co15) := (blk_cell BK379.out 1).trans rfl; have hcz80_2 : w73.cell? ⟨gb379, 2, none⟩ = some (.int .i64 t377) := (blk_cell BK379.out 2).trans rfl; have hfz80_0 := blk_frozen BK379.out 0; have hfz80_1 := blk_frozen BK379.out 1; have hfz80_2 := blk_frozen BK379.out 2; have hcz81_0 : w73.cell? ⟨gb386, 0, none⟩ = some (.bool t380) := (blk_cell BK386.out 0).trans rfl; have hcz81_1 : w73.cell? ⟨gb386, 1, none⟩ = some (.slice Ao20 t381.length co20) := (blk_cell BK386.out 1).trans rfl; have hcz81_2 : w73.cell? ⟨gb386, 2, none⟩ = some (.int .i64 t384) := (blk_cell BK386.out 2).trans rfl; have hfz81_0 := blk_frozen BK386.out 0; have hfz81_1 := blk_frozen BK386.out 1; have hfz81_2 := blk_frozen BK386.out 2) | ((with_reducible refine gate_callee (f := 8) rfl ?_); refine goesL_ (some 64) rfl rfl Try.func8 (by kernel_rfl) rfl #[.agg #[.bool t373, .slice Ao15 t374.length co15, .int .i64 t377], .agg #[.bool t380, .slice Ao20 t381.length co20, .int .i64 t384]] rfl (by (try simp only [List.map_toArray, List.map_cons, List.map_nil]); first | done | rfl | (simp only [List.length_drop, List.length_take]; rfl)) ?_; (with_reducible refine (dec_Cmp.calls kj10 t373 _ _ t374 t377 t380 _ _ t381 t384 t418 _ ?side1 ?side2 ?side3 ?side4 A28.out).mono ?_); (case side1 => refine (Kd.V_reads' (e := 5) (base := w.heap.size) (ok := fun k_ => ((some k_ ≠ (.slice Ao64 t405.length co64 : Value).ownBlock ∧ (k_ ≠ gb379 ∧ (k_ ≠ gb386 ∧ (k_ ≠ gb393 ∧ k_ ≠ gb410)))) ∧ k_ ≠ gb417)) (n := t374.length) (c := co15) ?_).2.2; exact (by (with_reducible repeat (first | apply Kd.V_alloc | apply Kd.V_drewN | apply Kd.V_drew)); exact (Kd.V_mono (Kd.V_far (p := ⟨gb417, 2, none⟩) (Kd.V_far (p := ⟨gb417, 1, none⟩) (Kd.V_far (p := ⟨gb417, 0, none⟩) (Kd.V_mono HO_380001.out (fun k_ hk => (⟨hk, hk.2⟩ : _ ∧ k_ ≠ gb417))) (fun _ hk => hk.2) (.bool t411)) (fun _ hk => hk.2) (.slice Ao79 t412.length co79)) (fun _ hk => hk.2) (.int .i64 t415)) (fun _ h_ => h_.1)))); (case side2 => exact (Kd.V_reads' HO_380001.out).2.1); (case side3 => refine (Kd.V_reads' (e := 5) (base := w.heap.size) (ok := fun k_ => ((some k_ ≠ (.slice Ao64 t405.length co64 : Value).ownBlock ∧ (k_ ≠ gb379 ∧ (k_ ≠ gb386 ∧ (k_ ≠ gb393 ∧ k_ ≠ gb410)))) ∧ k_ ≠ gb417)) (n := t381.length) (c := co20) ?_).2.2; exact (by (with_reducible repeat (first | apply Kd.V_alloc | apply Kd.V_drewN | apply Kd.V_drew)); exact (Kd.V_mono (Kd.V_far (p := ⟨gb417, 2, none⟩) (Kd.V_far (p := ⟨gb417, 1, none⟩) (Kd.V_far (p := ⟨gb417, 0, none⟩) (Kd.V_mono HO_387001.out (fun k_ hk => (⟨hk, hk.2⟩ : _ ∧ k_ ≠ gb417))) (fun _ hk => hk.2) (.bool t411)) (fun _ hk => hk.2) (.slice Ao79 t412.length co79)) (fun _ hk => hk.2) (.int .i64 t415)) (fun _ h_ => h_.1)))); (case side4 => exact (Kd.V_reads' HO_387001.out).2.1); rintro e w82 ⟨rfl, hb⟩; refine ⟨_, rfl, ?_⟩; have n0_ := Aside0.mk (Kd.V_below (by (with_reducible repeat (first | apply Kd.V_alloc | apply Kd.V_drewN | apply Kd.V_drew)); exact (Kd.V_mono (Kd.V_far (p := ⟨gb417, 2, none⟩) (Kd.V_far (p := ⟨gb417, 1, none⟩) (Kd.V_far (p := ⟨gb417, 0, none⟩) (Kd.V_mono HO_380001.out (fun k_ hk => (⟨hk, hk.2⟩ : _ ∧ k_ ≠ gb417))) (fun _ hk => hk.2) (.bool t411)) (fun _ hk => hk.2) (.slice Ao79 t412.length co79)) (fun _ hk => hk.2) (.int .i64 t415)) (fun _ h_ => h_.1))) hb); have n1_ := Aside0.mk (Kd.V_below (by (with_reducible repeat (first | apply Kd.V_alloc | apply Kd.V_drewN | apply Kd.V_drew)); exact (Kd.V_mono (Kd.V_far (p := ⟨gb417, 2, none⟩) (Kd.V_far (p := ⟨gb417, 1, none⟩) (Kd.V_far (p := ⟨gb417, 0, none⟩) (Kd.V_mono HO_387001.out (fun k_ hk => (⟨hk, hk.2⟩ : _ ∧ k_ ≠ gb417))) (fun _ hk => hk.2) (.bool t411)) (fun _ hk => hk.2) (.slice Ao79 t412.length co79)) (fun _ hk => hk.2) (.int .i64 t415)) (fun _ h_ => h_.1))) hb); have n2_ := Aside0.mk (Kd.V_below (by (with_reducible repeat (first | apply Kd.V_alloc | apply Kd.V_drewN | apply Kd.V_drew)); exact (Kd.V_mono (Kd.V_far (p := ⟨gb417, 2, none⟩) (Kd.V_far (p := ⟨gb417, 1, none⟩) (Kd.V_far (p := ⟨gb417, 0, none⟩) (Kd.V_mono HO390.out (fun k_ hk => (⟨hk, hk.2⟩ : _ ∧ k_ ≠ gb417))) (fun _ hk => hk.2) (.bool t411)) (fun _ hk => hk.2) (.slice Ao79 t412.length co79)) (fun _ hk => hk.2) (.int .i64 t415)) (fun _ h_ => h_.1))) hb); have n3_ := Aside0.mk (Kd.V_below (by (with_reducible repeat (first | apply Kd.V_alloc | apply Kd.V_drewN | apply Kd.V_drew)); exact (Kd.V_mono (Kd.V_far (p := ⟨gb417, 2, none⟩) (Kd.V_far (p := ⟨gb417, 1, none⟩) (Kd.V_far (p := ⟨gb417, 0, none⟩) (Kd.V_mono HO397.out (fun k_ hk => (⟨hk, hk.2⟩ : _ ∧ k_ ≠ gb417))) (fun _ hk => hk.2) (.bool t411)) (fun _ hk => hk.2) (.slice Ao79 t412.length co79)) (fun _ hk => hk.2) (.int .i64 t415)) (fun _ h_ => h_.1))) hb); have n4_ := Aside0.mk (Kd.V_below (by (with_reducible repeat (first | apply Kd.V_alloc | apply Kd.V_drewN | apply Kd.V_drew)); exact (Kd.V_mono (Kd.V_far (p := ⟨gb417, 2, none⟩) (Kd.V_far (p := ⟨gb417, 1, none⟩) (Kd.V_far (p := ⟨gb417, 0, none⟩) (Kd.V_mono HO402.out (fun k_ hk => (⟨hk, hk.2⟩ : _ ∧ k_ ≠ gb417))) (fun _ hk => hk.2) (.bool t411)) (fun _ hk => hk.2) (.slice Ao79 t412.length co79)) (fun _ hk => hk.2) (.int .i64 t415)) (fun _ h_ => h_.1))) hb); have n5_ := Aside0.mk (Kd.R_below (by (with_reducible repeat (first | apply Kd.R_alloc | apply Kd.R_drewN | apply Kd.R_drew)); exact (Kd.R_mono (Kd.R_far (p := ⟨gb417, 2, none⟩) (Kd.R_far (p := ⟨gb417, 1, none⟩) (Kd.R_far (p := ⟨gb417, 0, none⟩) (Kd.R_types HO407.out BK417.out (by decide)) (fun _ hk => hk.2) (.bool t411)) (fun _ hk => hk.2) (.slice Ao79 t412.length co79)) (fun _ hk => hk.2) (.int .i64 t415)) (fun _ h_ => h_.1))) hb); have n6_ := Aside0.mk (Kd.V_below (by (with_reducible repeat (first | apply Kd.V_alloc | apply Kd.V_drewN | apply Kd.V_drew)); exact (Kd.V_mono (Kd.V_far (p := ⟨gb417, 2, none⟩) (Kd.V_far (p := ⟨gb417, 1, none⟩) (Kd.V_far (p := ⟨gb417, 0, none⟩) (Kd.V_mono HO414.out (fun k_ hk => (⟨hk, hk.2⟩ : _ ∧ k_ ≠ gb417))) (fun _ hk => hk.2) (.bool t411)) (fun _ hk => hk.2) (.slice Ao79 t412.length co79)) (fun _ hk => hk.2) (.int .i64 t415)) (fun _ h_ => h_.1))) hb); have n7_ := Aside0.mk (blk_below (g := gb379) (o := .cells #[.bool t373, .slice Ao15 t374.length co15, .int .i64 t377] 25 (0, 0)) (by (with_reducible repeat (first | refine blk_drewN ?_ _ | refine blk_drew ?_ | refine blk_alloc ?_ _)); refine blk_far ?_ NB379_417.out _; (with_reducible repeat (first | refine blk_drewN ?_ _ | refine blk_drew ?_ | refine blk_alloc ?_ _)); refine blk_far ?_ NB379_417.out _; (with_reducible repeat (first | refine blk_drewN ?_ _ | refine blk_drew ?_ | refine blk_alloc ?_ _)); refine blk_far ?_ NB379_417.out _; (with_reducible repeat (first | refine blk_drewN ?_ _ | refine blk_drew ?_ | refine blk_alloc ?_ _)); exact BK379.out) hb); have n8_ := Aside0.mk (blk_below (g := gb386) (o := .cells #[.bool t380, .slice Ao20 t381.length co20, .int .i64 t384] 25 (0, 0)) (by (with_reducible repeat (first | refine blk_drewN ?_ _ | refine blk_drew ?_ | refine blk_alloc ?_ _)); refine blk_far ?_ NB386_417.out _; (with_reducible repeat (first | refine blk_drewN ?_ _ | refine blk_drew ?_ | refine blk_alloc ?_ _)); refine blk_far ?_ NB386_417.out _; (with_reducible repeat (first | refine blk_drewN ?_ _ | refine blk_drew ?_ | refine blk_alloc ?_ _)); refine blk_far ?_ NB386_417.out _; (with_reducible repeat (first | refine blk_drewN ?_ _ | refine blk_drew ?_ | refine blk_alloc ?_ _)); exact BK386.out) hb); have n9_ := Aside0.mk (blk_below (g := gb393) (o := .cells #[.bool t387, .slice Ao53 t388.length co53, .int .i64 t391] 25 (0, 0)) (by (with_reducible repeat (first | refine blk_drewN ?_ _ | refine blk_drew ?_ | refine blk_alloc ?_ _)); refine blk_far ?_ NB393_417.out _; (with_reducible repeat (first | refine blk_drewN ?_ _ | refine blk_drew ?_ | refine blk_alloc ?_ _)); refine blk_far ?_ NB393_417.out _; (with_reducible repeat (first | refine blk_drewN ?_ _ | refine blk_drew ?_ | refine blk_alloc ?_ _)); refine blk_far ?_ NB393_417.out _; (with_reducible repeat (first | refine blk_drewN ?_ _ | refine blk_drew ?_ | refine blk_alloc ?_ _)); exact BK393.out) hb); have n10_ := Aside0.mk (blk_below (g := gb410) (o := .cells #[.bool t404, .slice Ao64 t405.length co64, .int .i64 t408] 36 (0, 0)) (by (with_reducible repeat (first | refine blk_drewN ?_ _ | refine blk_drew ?_ | refine blk_alloc ?_ _)); refine blk_far ?_ NB410_417.out _; (with_reducible repeat (first | refine blk_drewN ?_ _ | refine blk_drew ?_ | refine blk_alloc ?_ _)); refine blk_far ?_ NB410_417.out _; (with_reducible repeat (first | refine blk_drewN ?_ _ | refine blk_drew ?_ | refine blk_alloc ?_ _)); refine blk_far ?_ NB410_417.out _; (with_reducible repeat (first | refine blk_drewN ?_ _ | refine blk_drew ?_ | refine blk_alloc ?_ _)); exact BK410.out) hb); have n11_ := Aside0.mk (blk_below (g := gb417) (o := .cells #[.bool t411, .slice Ao79 t412.length co79, .int .i64 t415] 25 (0, 0)) (by (with_reducible repeat (first | refine blk_drewN ?_ _ | refine blk_drew ?_ | refine blk_alloc ?_ _)); refine blk_put (cs := #[.bool t411, .slice Ao79 t412.length co79, .int .i64 0]) ?_ 2 _ rfl; (with_reducible repeat (first | refine blk_drewN ?_ _ | refine blk_drew ?_ | refine blk_alloc ?_ _)); refine blk_put (cs := #[.bool t411, .slice none 0 0, .int .i64 0]) ?_ 1 _ rfl; (with_reducible repeat (first | refine blk_drewN ?_ _ | refine blk_drew ?_ | refine blk_alloc ?_ _)); refine blk_put (cs := #[.bool false, .slice none 0 0, .int .i64 0]) ?_ 0 _ rfl; (with_reducible repeat (first | refine blk_drewN ?_ _ | refine blk_drew ?_ | refine blk_alloc ?_ _)); exact BK417.out) hb); have n12_ := Aside0.mk (below_step (by repeat (first | (with_reducible first | exact HB.out | apply below_alloc | apply pw_below_drewN | apply below_drew1 | refine below_set ?_ GE379.out | refine below_set ?_ GE386.out | refine below_set ?_ GE393.out | refine below_set ?_ GE410.out | refine below_set ?_ GE417.out) | exact HB.out)) hb); clear HO_380001; clear HO_387001; clear HO390; clear HO397; clear HO402; clear HO407; clear HO414; clear BK379; clear BK386; clear BK393; clear BK410; clear BK417; clear HB; have HO_380001 := n0_; have HO_387001 := n1_; have HO390 := n2_; have HO397 := n3_; have HO402 := n4_; have HO407 := n5_; have HO414 := n6_; have BK379 := n7_; have BK386 := n8_; have BK393 := n9_; have BK410 := n10_; have BK417 := n11_; have HB := n12_; clear n0_ n1_ n2_ n3_ n4_ n5_ n6_ n7_ n8_ n9_ n10_ n11_ n12_; (try clear hb); (try clear hb2); (try clear hk); (try clear hi)))
               have n0_ := Aside0.mk (Kd.V_drew HO_380001.out)
               have n1_ := Aside0.mk (Kd.V_drew HO_387001.out)
               have n2_ := Aside0.mk (Kd.V_drew HO390.out)
               have n3_ := Aside0.mk (Kd.V_drew HO397.out)
               have n4_ := Aside0.mk (Kd.V_drew HO402.out)
               have n5_ := Aside0.mk (Kd.R_drew HO407.out)
               have n6_ := Aside0.mk (Kd.V_drew HO414.out)
               have n7_ := Aside0.mk (blk_drew BK379.out)
               have n8_ := Aside0.mk (blk_drew BK386.out)
               have n9_ := Aside0.mk (blk_drew BK393.out)
               have n10_ := Aside0.mk (blk_drew BK410.out)
               have n11_ := Aside0.mk (blk_drew BK417.out)
               have n12_ := Aside0.mk (below_drew1 HB.out)
               clear HO_380001
               clear HO_387001
               clear HO390
               clear HO397
               clear HO402
               clear HO407
               clear HO414
               clear BK379
               clear BK386
               clear BK393
               clear BK410
               clear BK417
               clear HB
               have HO_380001 := n0_
               have HO_387001 := n1_
               have HO390 := n2_
               have HO397 := n3_
               have HO402 := n4_
               have HO407 := n5_
               have HO414 := n6_
               have BK379 := n7_
               have BK386 := n8_
               have BK393 := n9_
               have BK410 := n10_
               have BK417 := n11_
               have HB := n12_
               clear n0_ n1_ n2_ n3_ n4_ n5_ n6_ n7_ n8_ n9_ n10_ n11_ n12_
               refine start_ (n := 50) (S := fun w' => w'.cell? ⟨gb393, 0, none⟩ = some (.bool t387) ∧ w'.cell? ⟨gb393, 1, none⟩ = some (.slice Ao53 t388.length co53) ∧ w'.cell? ⟨gb393, 2, none⟩ = some (.int .i64 t391) ∧ w'.cell? ⟨gb410, 0, none⟩ = some (.bool t404) ∧ w'.cell? ⟨gb410, 1, none⟩ = some (.slice Ao64 t405.length co64) ∧ w'.cell? ⟨gb410, 2, none⟩ = some (.int .i64 t408) ∧ w'.cell? ⟨gb417, 0, none⟩ = some (.bool t411) ∧ w'.cell? ⟨gb417, 1, none⟩ = some (.slice Ao79 t412.length co79) ∧ w'.cell? ⟨gb417, 2, none⟩ = some (.int .i64 t415) ∧ w'.cell? ⟨gb379, 0, none⟩ = some (.bool t373) ∧ w'.cell? ⟨gb379, 1, none⟩ = some (.slice Ao15 t374.length co15) ∧ w'.cell? ⟨gb379, 2, none⟩ = some (.int .i64 t377) ∧ w'.cell? ⟨gb386, 0, none⟩ = some (.bool t380) ∧ w'.cell? ⟨gb386, 1, none⟩ = some (.slice Ao20 t381.length co20) ∧ w'.cell? ⟨gb386, 2, none⟩ = some (.int .i64 t384)) (ds := []) #[false, false, false, false, false, false, false, false, false, false, false, false, false, false, false, false, false, false, false, false, false, false, false, false, false, false, false, false, false, false, false, false, false, false, false, false, false, false, false, false, false, false, false, false, false, false, false, false, false, false] (by kernel_rfl) rfl rfl ⟨(blk_cell BK393.out 0).trans rfl, (blk_cell BK393.out 1).trans rfl, (blk_cell BK393.out 2).trans rfl, (blk_cell BK410.out 0).trans rfl, (blk_cell BK410.out 1).trans rfl, (blk_cell BK410.out 2).trans rfl, (blk_cell BK417.out 0).trans rfl, (blk_cell BK417.out 1).trans rfl, (blk_cell BK417.out 2).trans rfl, (blk_cell BK379.out 0).trans rfl, (blk_cell BK379.out 1).trans rfl, (blk_cell BK379.out 2).trans rfl, (blk_cell BK386.out 0).trans rfl, (blk_cell BK386.out 1).trans rfl, (blk_cell BK386.out 2).trans rfl⟩ (fun hHeld => ?_); refine with_tabW rubriclaw5_DecPairs.tab13 rubriclaw5_DecPairs.bits13 (fun HT_ HW_ => ?_)
               generalize w82.drew = w83 at HO_380001 HO_387001 HO390 HO397 HO402 HO407 HO414 BK379 BK386 BK393 BK410 BK417 HB hHeld ⊢
               refine take_ (i := 0) (N := some 65) (v := ?_) (a' := ?_) #[true, false, false, false, false, false, false, false, false, false, false, false, false, false, false, false, false, false, false, false, false, false, false, false, false, false, false, false, false, false, false, false, false, false, false, false, false, false, false, false, false, false, false, false, false, false, false, false, false, false] rfl rfl (take_ofW HT_.out HW_.out (by kernel_rfl)) (fun _ _ _ h => h) (Or.inl ⟨by rfl, ?_⟩) hHeld ?_ ?_
               rotate_left
               ·rintro w' ⟨s0, s1, s2, s3, s4, s5, s6, s7, s8, s9, s10, s11, s12, s13, s14⟩
                go_simp
                with_reducible rfl
               rotate_left
               ·simp only [Act.put, List.setIfInBounds_toArray, List.set_cons_zero, List.set_cons_succ, i64_w, i32_w]
                rfl
               refine take_ (i := 1) (N := some 66) (v := ?_) (a' := ?_) #[true, true, false, false, false, false, false, false, false, false, false, false, false, false, false, false, false, false, false, false, false, false, false, false, false, false, false, false, false, false, false, false, false, false, false, false, false, false, false, false, false, false, false, false, false, false, false, false, false, false] rfl rfl (take_ofW HT_.out HW_.out (by kernel_rfl)) (fun _ _ _ h => h) (Or.inl ⟨by rfl, ?_⟩) hHeld ?_ ?_
               rotate_left
               ·rintro w' ⟨s0, s1, s2, s3, s4, s5, s6, s7, s8, s9, s10, s11, s12, s13, s14⟩
                go_simp
                with_reducible rfl
               rotate_left
               ·simp only [Act.put, List.setIfInBounds_toArray, List.set_cons_zero, List.set_cons_succ, i64_w, i32_w]
                rfl
               refine one_ (i := 2) (N := some 67) #[true, true, true, false, false, false, false, false, false, false, false, false, false, false, false, false, false, false, false, false, false, false, false, false, false, false, false, false, false, false, false, false, false, false, false, false, false, false, false, false, false, false, false, false, false, false, false, false, false, false] rfl rfl (one_of HT_.out (by kernel_rfl)) (by decide) (fun K hK => ?_)
               refine goes_ Try.func16 (by kernel_rfl) rfl #[.agg #[.bool t387, .slice Ao53 t388.length co53, .int .i64 t391], .agg #[.bool t404, .slice Ao64 t405.length co64, .int .i64 t408]] (by rfl) rfl rfl (by (try simp only [List.map_toArray, List.map_cons, List.map_nil]); first | done | rfl | (simp only [List.length_drop, List.length_take]; rfl)) ?_
               with_reducible refine (rubriclaw5_same.calls t387 _ _ t388 t391 t404 _ _ t405 t408 true _ ?side1 ?side2 ?side3 ?side4 A29.out).mono ?_
               (case side1 => repeat (first | exact (Kd.V_reads' HO390.out).2.2 | (with_reducible refine Kd.C_alloc ?_ _) | (with_reducible refine Kd.C_drewN ?_ _) | (with_reducible refine Kd.C_drew ?_)))
               (case side2 => exact (Kd.V_reads' HO390.out).2.1)
               (case side3 => repeat (first | exact (Kd.R_reads' HO407.out).2.2 | (with_reducible refine Kd.C_alloc ?_ _) | (with_reducible refine Kd.C_drewN ?_ _) | (with_reducible refine Kd.C_drew ?_)))
               (case side4 => exact (Kd.R_reads' HO407.out).2.1)
               rintro e w84 ⟨rfl, hb⟩
               refine ⟨_, rfl, ?_⟩
               have n0_ := Aside0.mk (Kd.V_below (S.v HO_380001.out) hb)
               have n1_ := Aside0.mk (Kd.V_below (S.v HO_387001.out) hb)
               have n2_ := Aside0.mk (Kd.V_below (S.v HO390.out) hb)
               have n3_ := Aside0.mk (Kd.V_below (S.v HO397.out) hb)
               have n4_ := Aside0.mk (Kd.V_below (S.v HO402.out) hb)
               have n5_ := Aside0.mk (Kd.R_below (S.r HO407.out) hb)
               have n6_ := Aside0.mk (Kd.V_below (S.v HO414.out) hb)
               have n7_ := Aside0.mk (blk_below (g := gb379) (o := .cells #[.bool t373, .slice Ao15 t374.length co15, .int .i64 t377] 25 (0, 0)) (S.b BK379.out) hb)
               have n8_ := Aside0.mk (blk_below (g := gb386) (o := .cells #[.bool t380, .slice Ao20 t381.length co20, .int .i64 t384] 25 (0, 0)) (S.b BK386.out) hb)
               have n9_ := Aside0.mk (blk_below (g := gb393) (o := .cells #[.bool t387, .slice Ao53 t388.length co53, .int .i64 t391] 25 (0, 0)) (S.b BK393.out) hb)
               have n10_ := Aside0.mk (blk_below (g := gb410) (o := .cells #[.bool t404, .slice Ao64 t405.length co64, .int .i64 t408] 36 (0, 0)) (S.b BK410.out) hb)
               have n11_ := Aside0.mk (blk_below (g := gb417) (o := .cells #[.bool t411, .slice Ao79 t412.length co79, .int .i64 t415] 25 (0, 0)) (S.b BK417.out) hb)
               have n12_ := Aside0.mk (below_step (by repeat (first | (with_reducible first | exact HB.out | apply below_alloc | apply pw_below_drewN | apply below_drew1 | refine below_set ?_ GE379.out | refine below_set ?_ GE386.out | refine below_set ?_ GE393.out | refine below_set ?_ GE410.out | refine below_set ?_ GE417.out) | exact HB.out)) hb)
               clear HO_380001
               clear HO_387001
               clear HO390
               clear HO397
               clear HO402
               clear HO407
               clear HO414
               clear BK379
               clear BK386
               clear BK393
               clear BK410
               clear BK417
               clear HB
               have HO_380001 := n0_
               have HO_387001 := n1_
               have HO390 := n2_
               have HO397 := n3_
               have HO402 := n4_
               have HO407 := n5_
               have HO414 := n6_
               have BK379 := n7_
               have BK386 := n8_
               have BK393 := n9_
               have BK410 := n10_
               have BK417 := n11_
               have HB := n12_
               clear n0_ n1_ n2_ n3_ n4_ n5_ n6_ n7_ n8_ n9_ n10_ n11_ n12_
               (try clear hb)
               (try clear hb2)
               (try clear hk)
               (try clear hi)
               refine hK.out _ _ ⟨(blk_cell BK393.out 0).trans rfl, (blk_cell BK393.out 1).trans rfl, (blk_cell BK393.out 2).trans rfl, (blk_cell BK410.out 0).trans rfl, (blk_cell BK410.out 1).trans rfl, (blk_cell BK410.out 2).trans rfl, (blk_cell BK417.out 0).trans rfl, (blk_cell BK417.out 1).trans rfl, (blk_cell BK417.out 2).trans rfl, (blk_cell BK379.out 0).trans rfl, (blk_cell BK379.out 1).trans rfl, (blk_cell BK379.out 2).trans rfl, (blk_cell BK386.out 0).trans rfl, (blk_cell BK386.out 1).trans rfl, (blk_cell BK386.out 2).trans rfl⟩ (fun hHeld => ?_)
               clear hK K
               refine norm_ (a' := ?_) ?_ ?_
               rotate_left
               ·show Act.put _ (some 67) _ = _
                simp only [Act.put, List.setIfInBounds_toArray, List.set_cons_zero, List.set_cons_succ, i64_w, i32_w]
                rfl
               refine pure_ (i := 3) (N := some 68) (v := ?_) (a' := ?_) #[true, true, true, true, false, false, false, false, false, false, false, false, false, false, false, false, false, false, false, false, false, false, false, false, false, false, false, false, false, false, false, false, false, false, false, false, false, false, false, false, false, false, false, false, false, false, false, false, false, false] rfl rfl (any_of HT_.out (by kernel_rfl)) (fun _ _ _ h => h) (Or.inl ⟨by rfl, ?_⟩) ?_ ?_
               rotate_left
               ·intro w'
                go_simp
                with_reducible rfl
               rotate_left
               ·simp only [Act.put, List.setIfInBounds_toArray, List.set_cons_zero, List.set_cons_succ, i64_w, i32_w]
                rfl
               refine pure_ (i := 4) (N := some 69) (v := ?_) (a' := ?_) #[true, true, true, true, true, false, false, false, false, false, false, false, false, false, false, false, false, false, false, false, false, false, false, false, false, false, false, false, false, false, false, false, false, false, false, false, false, false, false, false, false, false, false, false, false, false, false, false, false, false] rfl rfl (any_of HT_.out (by kernel_rfl)) (fun _ _ _ h => h) (Or.inl ⟨by rfl, ?_⟩) ?_ ?_
               rotate_left
               ·intro w'
                go_simp
                with_reducible rfl
               rotate_left
               ·simp only [Act.put, List.setIfInBounds_toArray, List.set_cons_zero, List.set_cons_succ, i64_w, i32_w]
                rfl
               refine pure_ (i := 5) (N := some 70) (v := ?_) (a' := ?_) #[true, true, true, true, true, true, false, false, false, false, false, false, false, false, false, false, false, false, false, false, false, false, false, false, false, false, false, false, false, false, false, false, false, false, false, false, false, false, false, false, false, false, false, false, false, false, false, false, false, false] rfl rfl (any_of HT_.out (by kernel_rfl)) (fun _ _ _ h => h) (Or.inl ⟨by rfl, ?_⟩) ?_ ?_
               rotate_left
               ·intro w'
                go_simp
                with_reducible rfl
               rotate_left
               ·simp only [Act.put, List.setIfInBounds_toArray, List.set_cons_zero, List.set_cons_succ, i64_w, i32_w]
                rfl
               refine pure_ (i := 6) (N := some 71) (v := ?_) (a' := ?_) #[true, true, true, true, true, true, true, false, false, false, false, false, false, false, false, false, false, false, false, false, false, false, false, false, false, false, false, false, false, false, false, false, false, false, false, false, false, false, false, false, false, false, false, false, false, false, false, false, false, false] rfl rfl (any_of HT_.out (by kernel_rfl)) (fun _ _ _ h => h) (Or.inl ⟨by rfl, ?_⟩) ?_ ?_
               rotate_left
               ·intro w'
                go_simp
                with_reducible rfl
               rotate_left
               ·simp only [Act.put, List.setIfInBounds_toArray, List.set_cons_zero, List.set_cons_succ, i64_w, i32_w]
                rfl
               refine pure_ (i := 7) (N := some 72) (v := ?_) (a' := ?_) #[true, true, true, true, true, true, true, true, false, false, false, false, false, false, false, false, false, false, false, false, false, false, false, false, false, false, false, false, false, false, false, false, false, false, false, false, false, false, false, false, false, false, false, false, false, false, false, false, false, false] rfl rfl (any_of HT_.out (by kernel_rfl)) (fun _ _ _ h => h) (Or.inl ⟨by rfl, ?_⟩) ?_ ?_
               rotate_left
               ·intro w'
                go_simp
                with_reducible rfl
               rotate_left
               ·simp only [Act.put, List.setIfInBounds_toArray, List.set_cons_zero, List.set_cons_succ, i64_w, i32_w]
                rfl
               refine pure_ (i := 8) (N := some 73) (v := ?_) (a' := ?_) #[true, true, true, true, true, true, true, true, true, false, false, false, false, false, false, false, false, false, false, false, false, false, false, false, false, false, false, false, false, false, false, false, false, false, false, false, false, false, false, false, false, false, false, false, false, false, false, false, false, false] rfl rfl (any_of HT_.out (by kernel_rfl)) (fun _ _ _ h => h) (Or.inl ⟨by rfl, ?_⟩) ?_ ?_
               rotate_left
               ·intro w'
                go_simp
                with_reducible rfl
               rotate_left
               ·simp only [Act.put, List.setIfInBounds_toArray, List.set_cons_zero, List.set_cons_succ, i64_w, i32_w]
                rfl
               refine take_ (i := 9) (N := some 74) (v := ?_) (a' := ?_) #[true, true, true, true, true, true, true, true, true, true, false, false, false, false, false, false, false, false, false, false, false, false, false, false, false, false, false, false, false, false, false, false, false, false, false, false, false, false, false, false, false, false, false, false, false, false, false, false, false, false] rfl rfl (take_ofW HT_.out HW_.out (by kernel_rfl)) (fun _ _ _ h => h) (Or.inl ⟨by rfl, ?_⟩) hHeld ?_ ?_
               rotate_left
               ·rintro w' ⟨s0, s1, s2, s3, s4, s5, s6, s7, s8, s9, s10, s11, s12, s13, s14⟩
                go_simp
                with_reducible rfl
               rotate_left
               ·simp only [Act.put, List.setIfInBounds_toArray, List.set_cons_zero, List.set_cons_succ, i64_w, i32_w]
                rfl
               refine take_ (i := 10) (N := some 75) (v := ?_) (a' := ?_) #[true, true, true, true, true, true, true, true, true, true, true, false, false, false, false, false, false, false, false, false, false, false, false, false, false, false, false, false, false, false, false, false, false, false, false, false, false, false, false, false, false, false, false, false, false, false, false, false, false, false] rfl rfl (take_ofW HT_.out HW_.out (by kernel_rfl)) (fun _ _ _ h => h) (Or.inl ⟨by rfl, ?_⟩) hHeld ?_ ?_
               rotate_left
               ·rintro w' ⟨s0, s1, s2, s3, s4, s5, s6, s7, s8, s9, s10, s11, s12, s13, s14⟩
                go_simp
                with_reducible rfl
               rotate_left
               ·simp only [Act.put, List.setIfInBounds_toArray, List.set_cons_zero, List.set_cons_succ, i64_w, i32_w]
                rfl
               refine one_ (i := 11) (N := some 76) #[true, true, true, true, true, true, true, true, true, true, true, true, false, false, false, false, false, false, false, false, false, false, false, false, false, false, false, false, false, false, false, false, false, false, false, false, false, false, false, false, false, false, false, false, false, false, false, false, false, false] rfl rfl (one_of HT_.out (by kernel_rfl)) (by decide) (fun K hK => ?_)
               refine goes_ Try.func16 (by kernel_rfl) rfl #[.agg #[.bool t411, .slice Ao79 t412.length co79, .int .i64 t415], .agg #[.bool t404, .slice Ao64 t405.length co64, .int .i64 t408]] (by rfl) rfl rfl (by (try simp only [List.map_toArray, List.map_cons, List.map_nil]); first | done | rfl | (simp only [List.length_drop, List.length_take]; rfl)) ?_
               with_reducible refine (rubriclaw5_same.calls t411 _ _ t412 t415 t404 _ _ t405 t408 true _ ?side1 ?side2 ?side3 ?side4 A32.out).mono ?_
               (case side1 => repeat (first | exact (Kd.V_reads' HO414.out).2.2 | (with_reducible refine Kd.C_alloc ?_ _) | (with_reducible refine Kd.C_drewN ?_ _) | (with_reducible refine Kd.C_drew ?_)))
               (case side2 => exact (Kd.V_reads' HO414.out).2.1)
               (case side3 => repeat (first | exact (Kd.R_reads' HO407.out).2.2 | (with_reducible refine Kd.C_alloc ?_ _) | (with_reducible refine Kd.C_drewN ?_ _) | (with_reducible refine Kd.C_drew ?_)))
               (case side4 => exact (Kd.R_reads' HO407.out).2.1)
               rintro e w85 ⟨rfl, hb⟩
               refine ⟨_, rfl, ?_⟩
               have n0_ := Aside0.mk (Kd.V_below (S.v HO_380001.out) hb)
               have n1_ := Aside0.mk (Kd.V_below (S.v HO_387001.out) hb)
               have n2_ := Aside0.mk (Kd.V_below (S.v HO390.out) hb)
               have n3_ := Aside0.mk (Kd.V_below (S.v HO397.out) hb)
               have n4_ := Aside0.mk (Kd.V_below (S.v HO402.out) hb)
               have n5_ := Aside0.mk (Kd.R_below (S.r HO407.out) hb)
               have n6_ := Aside0.mk (Kd.V_below (S.v HO414.out) hb)
               have n7_ := Aside0.mk (blk_below (g := gb379) (o := .cells #[.bool t373, .slice Ao15 t374.length co15, .int .i64 t377] 25 (0, 0)) (S.b BK379.out) hb)
               have n8_ := Aside0.mk (blk_below (g := gb386) (o := .cells #[.bool t380, .slice Ao20 t381.length co20, .int .i64 t384] 25 (0, 0)) (S.b BK386.out) hb)
               have n9_ := Aside0.mk (blk_below (g := gb393) (o := .cells #[.bool t387, .slice Ao53 t388.length co53, .int .i64 t391] 25 (0, 0)) (S.b BK393.out) hb)
               have n10_ := Aside0.mk (blk_below (g := gb410) (o := .cells #[.bool t404, .slice Ao64 t405.length co64, .int .i64 t408] 36 (0, 0)) (S.b BK410.out) hb)
               have n11_ := Aside0.mk (blk_below (g := gb417) (o := .cells #[.bool t411, .slice Ao79 t412.length co79, .int .i64 t415] 25 (0, 0)) (S.b BK417.out) hb)
               have n12_ := Aside0.mk (below_step (by repeat (first | (with_reducible first | exact HB.out | apply below_alloc | apply pw_below_drewN | apply below_drew1 | refine below_set ?_ GE379.out | refine below_set ?_ GE386.out | refine below_set ?_ GE393.out | refine below_set ?_ GE410.out | refine below_set ?_ GE417.out) | exact HB.out)) hb)
               clear HO_380001
               clear HO_387001
               clear HO390
               clear HO397
               clear HO402
               clear HO407
               clear HO414
               clear BK379
               clear BK386
               clear BK393
               clear BK410
               clear BK417
               clear HB
               have HO_380001 := n0_
               have HO_387001 := n1_
               have HO390 := n2_
               have HO397 := n3_
               have HO402 := n4_
               have HO407 := n5_
               have HO414 := n6_
               have BK379 := n7_
               have BK386 := n8_
               have BK393 := n9_
               have BK410 := n10_
               have BK417 := n11_
               have HB := n12_
               clear n0_ n1_ n2_ n3_ n4_ n5_ n6_ n7_ n8_ n9_ n10_ n11_ n12_
               (try clear hb)
               (try clear hb2)
               (try clear hk)
               (try clear hi)
               refine hK.out _ _ ⟨(blk_cell BK393.out 0).trans rfl, (blk_cell BK393.out 1).trans rfl, (blk_cell BK393.out 2).trans rfl, (blk_cell BK410.out 0).trans rfl, (blk_cell BK410.out 1).trans rfl, (blk_cell BK410.out 2).trans rfl, (blk_cell BK417.out 0).trans rfl, (blk_cell BK417.out 1).trans rfl, (blk_cell BK417.out 2).trans rfl, (blk_cell BK379.out 0).trans rfl, (blk_cell BK379.out 1).trans rfl, (blk_cell BK379.out 2).trans rfl, (blk_cell BK386.out 0).trans rfl, (blk_cell BK386.out 1).trans rfl, (blk_cell BK386.out 2).trans rfl⟩ (fun hHeld => ?_)
               clear hK K
               refine norm_ (a' := ?_) ?_ ?_
               rotate_left
               ·show Act.put _ (some 76) _ = _
                simp only [Act.put, List.setIfInBounds_toArray, List.set_cons_zero, List.set_cons_succ, i64_w, i32_w]
                rfl
               refine pure_ (i := 12) (N := some 77) (v := ?_) (a' := ?_) #[true, true, true, true, true, true, true, true, true, true, true, true, true, false, false, false, false, false, false, false, false, false, false, false, false, false, false, false, false, false, false, false, false, false, false, false, false, false, false, false, false, false, false, false, false, false, false, false, false, false] rfl rfl (any_of HT_.out (by kernel_rfl)) (fun _ _ _ h => h) (Or.inl ⟨by rfl, ?_⟩) ?_ ?_
               rotate_left
               ·intro w'
                go_simp
                with_reducible rfl
               rotate_left
               ·simp only [Act.put, List.setIfInBounds_toArray, List.set_cons_zero, List.set_cons_succ, i64_w, i32_w]
                rfl
               refine pure_ (i := 13) (N := some 78) (v := ?_) (a' := ?_) #[true, true, true, true, true, true, true, true, true, true, true, true, true, true, false, false, false, false, false, false, false, false, false, false, false, false, false, false, false, false, false, false, false, false, false, false, false, false, false, false, false, false, false, false, false, false, false, false, false, false] rfl rfl (any_of HT_.out (by kernel_rfl)) (fun _ _ _ h => h) (Or.inl ⟨by rfl, ?_⟩) ?_ ?_
               rotate_left
               ·intro w'
                go_simp
                with_reducible rfl
               rotate_left
               ·simp only [Act.put, List.setIfInBounds_toArray, List.set_cons_zero, List.set_cons_succ, i64_w, i32_w]
                rfl
               refine pure_ (i := 14) (N := some 79) (v := ?_) (a' := ?_) #[true, true, true, true, true, true, true, true, true, true, true, true, true, true, true, false, false, false, false, false, false, false, false, false, false, false, false, false, false, false, false, false, false, false, false, false, false, false, false, false, false, false, false, false, false, false, false, false, false, false] rfl rfl (any_of HT_.out (by kernel_rfl)) (fun _ _ _ h => h) (Or.inl ⟨by rfl, ?_⟩) ?_ ?_
               rotate_left
               ·intro w'
                go_simp
                with_reducible rfl
               rotate_left
               ·simp only [Act.put, List.setIfInBounds_toArray, List.set_cons_zero, List.set_cons_succ, i64_w, i32_w]
                rfl
               refine pure_ (i := 15) (N := some 80) (v := ?_) (a' := ?_) #[true, true, true, true, true, true, true, true, true, true, true, true, true, true, true, true, false, false, false, false, false, false, false, false, false, false, false, false, false, false, false, false, false, false, false, false, false, false, false, false, false, false, false, false, false, false, false, false, false, false] rfl rfl (any_of HT_.out (by kernel_rfl)) (fun _ _ _ h => h) (Or.inl ⟨by rfl, ?_⟩) ?_ ?_
               rotate_left
               ·intro w'
                go_simp
                with_reducible rfl
               rotate_left
               ·simp only [Act.put, List.setIfInBounds_toArray, List.set_cons_zero, List.set_cons_succ, i64_w, i32_w]
                rfl
               refine pure_ (i := 16) (N := some 81) (v := ?_) (a' := ?_) #[true, true, true, true, true, true, true, true, true, true, true, true, true, true, true, true, true, false, false, false, false, false, false, false, false, false, false, false, false, false, false, false, false, false, false, false, false, false, false, false, false, false, false, false, false, false, false, false, false, false] rfl rfl (any_of HT_.out (by kernel_rfl)) (fun _ _ _ h => h) (Or.inl ⟨by rfl, ?_⟩) ?_ ?_
               rotate_left
               ·intro w'
                go_simp
                with_reducible rfl
               rotate_left
               ·simp only [Act.put, List.setIfInBounds_toArray, List.set_cons_zero, List.set_cons_succ, i64_w, i32_w]
                rfl
               refine pure_ (i := 17) (N := some 82) (v := ?_) (a' := ?_) #[true, true, true, true, true, true, true, true, true, true, true, true, true, true, true, true, true, true, false, false, false, false, false, false, false, false, false, false, false, false, false, false, false, false, false, false, false, false, false, false, false, false, false, false, false, false, false, false, false, false] rfl rfl (any_of HT_.out (by kernel_rfl)) (fun _ _ _ h => h) (Or.inl ⟨by rfl, ?_⟩) ?_ ?_
               rotate_left
               ·intro w'
                go_simp
                with_reducible rfl
               rotate_left
               ·simp only [Act.put, List.setIfInBounds_toArray, List.set_cons_zero, List.set_cons_succ, i64_w, i32_w]
                rfl
               refine pure_ (i := 18) (N := some 83) (v := ?_) (a' := ?_) #[true, true, true, true, true, true, true, true, true, true, true, true, true, true, true, true, true, true, true, false, false, false, false, false, false, false, false, false, false, false, false, false, false, false, false, false, false, false, false, false, false, false, false, false, false, false, false, false, false, false] rfl rfl (any_of HT_.out (by kernel_rfl)) (fun _ _ _ h => h) (Or.inl ⟨by rfl, ?_⟩) ?_ ?_
               rotate_left
               ·intro w'
                go_simp
                with_reducible rfl
               rotate_left
               ·simp only [Act.put, List.setIfInBounds_toArray, List.set_cons_zero, List.set_cons_succ, i64_w, i32_w]
                rfl
               refine pure_ (i := 19) (N := some 84) (v := ?_) (a' := ?_) #[true, true, true, true, true, true, true, true, true, true, true, true, true, true, true, true, true, true, true, true, false, false, false, false, false, false, false, false, false, false, false, false, false, false, false, false, false, false, false, false, false, false, false, false, false, false, false, false, false, false] rfl rfl (any_of HT_.out (by kernel_rfl)) (fun _ _ _ h => h) (Or.inl ⟨by rfl, ?_⟩) ?_ ?_
               rotate_left
               ·intro w'
                go_simp
                with_reducible rfl
               rotate_left
               ·simp only [Act.put, List.setIfInBounds_toArray, List.set_cons_zero, List.set_cons_succ, i64_w, i32_w]
                rfl
               refine take_ (i := 20) (N := some 85) (v := ?_) (a' := ?_) #[true, true, true, true, true, true, true, true, true, true, true, true, true, true, true, true, true, true, true, true, true, false, false, false, false, false, false, false, false, false, false, false, false, false, false, false, false, false, false, false, false, false, false, false, false, false, false, false, false, false] rfl rfl (take_ofW HT_.out HW_.out (by kernel_rfl)) (fun _ _ _ h => h) (Or.inl ⟨by rfl, ?_⟩) hHeld ?_ ?_
               rotate_left
               ·rintro w' ⟨s0, s1, s2, s3, s4, s5, s6, s7, s8, s9, s10, s11, s12, s13, s14⟩
                go_simp
                with_reducible rfl
               rotate_left
               ·simp only [Act.put, List.setIfInBounds_toArray, List.set_cons_zero, List.set_cons_succ, i64_w, i32_w]
                rfl
               refine take_ (i := 22) (N := some 87) (v := ?_) (a' := ?_) #[true, true, true, true, true, true, true, true, true, true, true, true, true, true, true, true, true, true, true, true, true, false, true, false, false, false, false, false, false, false, false, false, false, false, false, false, false, false, false, false, false, false, false, false, false, false, false, false, false, false] rfl rfl (take_ofW HT_.out HW_.out (by kernel_rfl)) (fun _ _ _ h => h) (Or.inl ⟨by rfl, ?_⟩) hHeld ?_ ?_
               rotate_left
               ·rintro w' ⟨s0, s1, s2, s3, s4, s5, s6, s7, s8, s9, s10, s11, s12, s13, s14⟩
                go_simp
                with_reducible rfl
               rotate_left
               ·simp only [Act.put, List.setIfInBounds_toArray, List.set_cons_zero, List.set_cons_succ, i64_w, i32_w]
                rfl
               refine one_ (i := 21) (N := some 86) #[true, true, true, true, true, true, true, true, true, true, true, true, true, true, true, true, true, true, true, true, true, true, true, false, false, false, false, false, false, false, false, false, false, false, false, false, false, false, false, false, false, false, false, false, false, false, false, false, false, false] rfl rfl (one_of HT_.out (by kernel_rfl)) (by decide) (fun K hK => ?_)
               refine goes_ Try.func15 (by kernel_rfl) rfl #[.agg #[.bool t373, .slice Ao15 t374.length co15, .int .i64 t377]] (by rfl) rfl rfl (by (try simp only [List.map_toArray, List.map_cons, List.map_nil]); first | done | rfl | (simp only [List.length_drop, List.length_take]; rfl)) ?_
               with_reducible refine (rubriclaw5_Of.calls t373 (fun k_ => ((some k_ ≠ (.slice Ao64 t405.length co64 : Value).ownBlock ∧ (k_ ≠ gb379 ∧ (k_ ≠ gb386 ∧ (k_ ≠ gb393 ∧ k_ ≠ gb410)))) ∧ k_ ≠ gb417)) _ _ t374 t377 t421 t422 t425 _ ?side1 A35.out).mono ?_
               (case side1 => exact HO_380001.out)
               rintro e w86 ⟨v423, rfl, ho0, hb⟩
               refine ⟨_, rfl, ?_⟩
               have n0_ := Aside0.mk (Kd.V_below (S.v HO_380001.out) hb)
               have n1_ := Aside0.mk (Kd.V_below (S.v HO_387001.out) hb)
               have n2_ := Aside0.mk (Kd.V_below (S.v HO390.out) hb)
               have n3_ := Aside0.mk (Kd.V_below (S.v HO397.out) hb)
               have n4_ := Aside0.mk (Kd.V_below (S.v HO402.out) hb)
               have n5_ := Aside0.mk (Kd.R_below (S.r HO407.out) hb)
               have n6_ := Aside0.mk (Kd.V_below (S.v HO414.out) hb)
               have n7_ := Aside0.mk (Kd.V_lower (Kd.V_mono (ok' := fun k_ => some k_ ≠ (.slice Ao64 t405.length co64 : Value).ownBlock ∧ k_ ≠ gb379 ∧ k_ ≠ gb386 ∧ k_ ≠ gb393 ∧ k_ ≠ gb410 ∧ k_ ≠ gb417) ho0 (fun k_ hk_ => ⟨Or.elim hk_ (fun hs_ => hs_.1.1) (fun hn_ => (Kd.fresh' (Kd.R_lt (S.r HO407.out)) k_ hn_)), Or.elim hk_ (fun hs_ => hs_.1.2.1) (fun hn_ => (Kd.freshB (g := gb379) (o := .cells #[.bool t373, .slice Ao15 t374.length co15, .int .i64 t377] 25 (0, 0)) (S.b BK379.out) k_ hn_)), Or.elim hk_ (fun hs_ => hs_.1.2.2.1) (fun hn_ => (Kd.freshB (g := gb386) (o := .cells #[.bool t380, .slice Ao20 t381.length co20, .int .i64 t384] 25 (0, 0)) (S.b BK386.out) k_ hn_)), Or.elim hk_ (fun hs_ => hs_.1.2.2.2.1) (fun hn_ => (Kd.freshB (g := gb393) (o := .cells #[.bool t387, .slice Ao53 t388.length co53, .int .i64 t391] 25 (0, 0)) (S.b BK393.out) k_ hn_)), Or.elim hk_ (fun hs_ => hs_.1.2.2.2.2) (fun hn_ => (Kd.freshB (g := gb410) (o := .cells #[.bool t404, .slice Ao64 t405.length co64, .int .i64 t408] 36 (0, 0)) (S.b BK410.out) k_ hn_)), Or.elim hk_ (fun hs_ => hs_.2) (fun hn_ => (Kd.freshB (g := gb417) (o := .cells #[.bool t411, .slice Ao79 t412.length co79, .int .i64 t415] 25 (0, 0)) (S.b BK417.out) k_ hn_))⟩)) (below_size (by repeat (first | (with_reducible first | exact HB.out | apply below_alloc | apply pw_below_drewN | apply below_drew1 | refine below_set ?_ GE379.out | refine below_set ?_ GE386.out | refine below_set ?_ GE393.out | refine below_set ?_ GE410.out | refine below_set ?_ GE417.out) | exact HB.out))))
               have n8_ := Aside0.mk (blk_below (g := gb379) (o := .cells #[.bool t373, .slice Ao15 t374.length co15, .int .i64 t377] 25 (0, 0)) (S.b BK379.out) hb)
               have n9_ := Aside0.mk (blk_below (g := gb386) (o := .cells #[.bool t380, .slice Ao20 t381.length co20, .int .i64 t384] 25 (0, 0)) (S.b BK386.out) hb)
               have n10_ := Aside0.mk (blk_below (g := gb393) (o := .cells #[.bool t387, .slice Ao53 t388.length co53, .int .i64 t391] 25 (0, 0)) (S.b BK393.out) hb)
               have n11_ := Aside0.mk (blk_below (g := gb410) (o := .cells #[.bool t404, .slice Ao64 t405.length co64, .int .i64 t408] 36 (0, 0)) (S.b BK410.out) hb)
               have n12_ := Aside0.mk (blk_below (g := gb417) (o := .cells #[.bool t411, .slice Ao79 t412.length co79, .int .i64 t415] 25 (0, 0)) (S.b BK417.out) hb)
               have n13_ := Aside0.mk (below_step (by repeat (first | (with_reducible first | exact HB.out | apply below_alloc | apply pw_below_drewN | apply below_drew1 | refine below_set ?_ GE379.out | refine below_set ?_ GE386.out | refine below_set ?_ GE393.out | refine below_set ?_ GE410.out | refine below_set ?_ GE417.out) | exact HB.out)) hb)
               clear HO_380001
               clear HO_387001
               clear HO390
               clear HO397
               clear HO402
               clear HO407
               clear HO414
               clear BK379
               clear BK386
               clear BK393
               clear BK410
               clear BK417
               clear HB
               have HO_380001 := n0_
               have HO_387001 := n1_
               have HO390 := n2_
               have HO397 := n3_
               have HO402 := n4_
               have HO407 := n5_
               have HO414 := n6_
               have HO424 := n7_
               have BK379 := n8_
               have BK386 := n9_
               have BK393 := n10_
               have BK410 := n11_
               have BK417 := n12_
               have HB := n13_
               clear n0_ n1_ n2_ n3_ n4_ n5_ n6_ n7_ n8_ n9_ n10_ n11_ n12_ n13_
               (try clear hb)
               (try clear hb2)
               (try clear hk)
               (try clear hi)
               (try clear ho0)
               refine hK.out _ _ ⟨(blk_cell BK393.out 0).trans rfl, (blk_cell BK393.out 1).trans rfl, (blk_cell BK393.out 2).trans rfl, (blk_cell BK410.out 0).trans rfl, (blk_cell BK410.out 1).trans rfl, (blk_cell BK410.out 2).trans rfl, (blk_cell BK417.out 0).trans rfl, (blk_cell BK417.out 1).trans rfl, (blk_cell BK417.out 2).trans rfl, (blk_cell BK379.out 0).trans rfl, (blk_cell BK379.out 1).trans rfl, (blk_cell BK379.out 2).trans rfl, (blk_cell BK386.out 0).trans rfl, (blk_cell BK386.out 1).trans rfl, (blk_cell BK386.out 2).trans rfl⟩ (fun hHeld => ?_)
               clear hK K
               refine norm_ (a' := ?_) ?_ ?_
               rotate_left
               ·show Act.put _ (some 86) _ = _
                simp only [Act.put, List.setIfInBounds_toArray, List.set_cons_zero, List.set_cons_succ, i64_w, i32_w]
                rfl
               refine one_ (i := 23) (N := some 88) #[true, true, true, true, true, true, true, true, true, true, true, true, true, true, true, true, true, true, true, true, true, true, true, true, false, false, false, false, false, false, false, false, false, false, false, false, false, false, false, false, false, false, false, false, false, false, false, false, false, false] rfl rfl (one_of HT_.out (by kernel_rfl)) (by decide) (fun K hK => ?_)
               refine goes_ Try.func15 (by kernel_rfl) rfl #[.agg #[.bool t380, .slice Ao20 t381.length co20, .int .i64 t384]] (by rfl) rfl rfl (by (try simp only [List.map_toArray, List.map_cons, List.map_nil]); first | done | rfl | (simp only [List.length_drop, List.length_take]; rfl)) ?_
               with_reducible refine (rubriclaw5_Of.calls t380 (fun k_ => ((some k_ ≠ (.slice Ao64 t405.length co64 : Value).ownBlock ∧ (k_ ≠ gb379 ∧ (k_ ≠ gb386 ∧ (k_ ≠ gb393 ∧ k_ ≠ gb410)))) ∧ k_ ≠ gb417)) _ _ t381 t384 t426 t427 t430 _ ?side1 A36.out).mono ?_
               (case side1 => exact HO_387001.out)
               rintro e w87 ⟨v428, rfl, ho0, hb⟩
               refine ⟨_, rfl, ?_⟩
               have n0_ := Aside0.mk (Kd.V_below (S.v HO_380001.out) hb)
               have n1_ := Aside0.mk (Kd.V_below (S.v HO_387001.out) hb)
               have n2_ := Aside0.mk (Kd.V_below (S.v HO390.out) hb)
               have n3_ := Aside0.mk (Kd.V_below (S.v HO397.out) hb)
               have n4_ := Aside0.mk (Kd.V_below (S.v HO402.out) hb)
               have n5_ := Aside0.mk (Kd.R_below (S.r HO407.out) hb)
               have n6_ := Aside0.mk (Kd.V_below (S.v HO414.out) hb)
               have n7_ := Aside0.mk (Kd.V_below (S.v HO424.out) hb)
               have n8_ := Aside0.mk (Kd.V_lower (Kd.V_mono (ok' := fun k_ => some k_ ≠ (.slice Ao64 t405.length co64 : Value).ownBlock ∧ k_ ≠ gb379 ∧ k_ ≠ gb386 ∧ k_ ≠ gb393 ∧ k_ ≠ gb410 ∧ k_ ≠ gb417) ho0 (fun k_ hk_ => ⟨Or.elim hk_ (fun hs_ => hs_.1.1) (fun hn_ => (Kd.fresh' (Kd.R_lt (S.r HO407.out)) k_ hn_)), Or.elim hk_ (fun hs_ => hs_.1.2.1) (fun hn_ => (Kd.freshB (g := gb379) (o := .cells #[.bool t373, .slice Ao15 t374.length co15, .int .i64 t377] 25 (0, 0)) (S.b BK379.out) k_ hn_)), Or.elim hk_ (fun hs_ => hs_.1.2.2.1) (fun hn_ => (Kd.freshB (g := gb386) (o := .cells #[.bool t380, .slice Ao20 t381.length co20, .int .i64 t384] 25 (0, 0)) (S.b BK386.out) k_ hn_)), Or.elim hk_ (fun hs_ => hs_.1.2.2.2.1) (fun hn_ => (Kd.freshB (g := gb393) (o := .cells #[.bool t387, .slice Ao53 t388.length co53, .int .i64 t391] 25 (0, 0)) (S.b BK393.out) k_ hn_)), Or.elim hk_ (fun hs_ => hs_.1.2.2.2.2) (fun hn_ => (Kd.freshB (g := gb410) (o := .cells #[.bool t404, .slice Ao64 t405.length co64, .int .i64 t408] 36 (0, 0)) (S.b BK410.out) k_ hn_)), Or.elim hk_ (fun hs_ => hs_.2) (fun hn_ => (Kd.freshB (g := gb417) (o := .cells #[.bool t411, .slice Ao79 t412.length co79, .int .i64 t415] 25 (0, 0)) (S.b BK417.out) k_ hn_))⟩)) (below_size (by repeat (first | (with_reducible first | exact HB.out | apply below_alloc | apply pw_below_drewN | apply below_drew1 | refine below_set ?_ GE379.out | refine below_set ?_ GE386.out | refine below_set ?_ GE393.out | refine below_set ?_ GE410.out | refine below_set ?_ GE417.out) | exact HB.out))))
               have n9_ := Aside0.mk (blk_below (g := gb379) (o := .cells #[.bool t373, .slice Ao15 t374.length co15, .int .i64 t377] 25 (0, 0)) (S.b BK379.out) hb)
               have n10_ := Aside0.mk (blk_below (g := gb386) (o := .cells #[.bool t380, .slice Ao20 t381.length co20, .int .i64 t384] 25 (0, 0)) (S.b BK386.out) hb)
               have n11_ := Aside0.mk (blk_below (g := gb393) (o := .cells #[.bool t387, .slice Ao53 t388.length co53, .int .i64 t391] 25 (0, 0)) (S.b BK393.out) hb)
               have n12_ := Aside0.mk (blk_below (g := gb410) (o := .cells #[.bool t404, .slice Ao64 t405.length co64, .int .i64 t408] 36 (0, 0)) (S.b BK410.out) hb)
               have n13_ := Aside0.mk (blk_below (g := gb417) (o := .cells #[.bool t411, .slice Ao79 t412.length co79, .int .i64 t415] 25 (0, 0)) (S.b BK417.out) hb)
               have n14_ := Aside0.mk (below_step (by repeat (first | (with_reducible first | exact HB.out | apply below_alloc | apply pw_below_drewN | apply below_drew1 | refine below_set ?_ GE379.out | refine below_set ?_ GE386.out | refine below_set ?_ GE393.out | refine below_set ?_ GE410.out | refine below_set ?_ GE417.out) | exact HB.out)) hb)
               clear HO_380001
               clear HO_387001
               clear HO390
               clear HO397
               clear HO402
               clear HO407
               clear HO414
               clear HO424
               clear BK379
               clear BK386
               clear BK393
               clear BK410
               clear BK417
               clear HB
               have HO_380001 := n0_
               have HO_387001 := n1_
               have HO390 := n2_
               have HO397 := n3_
               have HO402 := n4_
               have HO407 := n5_
               have HO414 := n6_
               have HO424 := n7_
               have HO429 := n8_
               have BK379 := n9_
               have BK386 := n10_
               have BK393 := n11_
               have BK410 := n12_
               have BK417 := n13_
               have HB := n14_
               clear n0_ n1_ n2_ n3_ n4_ n5_ n6_ n7_ n8_ n9_ n10_ n11_ n12_ n13_ n14_
               (try clear hb)
               (try clear hb2)
               (try clear hk)
               (try clear hi)
               (try clear ho0)
               obtain ⟨Ao88, co88, eo88⟩ := Kd.V_slice HO424.out
               (first | subst eo88 | (injection eo88 with f1_ f2_ f3_; have f4_ := f1_.symm; have f5_ := f3_.symm; clear f1_ f2_ f3_; subst f4_; subst f5_))
               obtain ⟨Ao89, co89, eo89⟩ := Kd.V_slice HO429.out
               (first | subst eo89 | (injection eo89 with f1_ f2_ f3_; have f4_ := f1_.symm; have f5_ := f3_.symm; clear f1_ f2_ f3_; subst f4_; subst f5_))
               refine hK.out _ _ ⟨(blk_cell BK393.out 0).trans rfl, (blk_cell BK393.out 1).trans rfl, (blk_cell BK393.out 2).trans rfl, (blk_cell BK410.out 0).trans rfl, (blk_cell BK410.out 1).trans rfl, (blk_cell BK410.out 2).trans rfl, (blk_cell BK417.out 0).trans rfl, (blk_cell BK417.out 1).trans rfl, (blk_cell BK417.out 2).trans rfl, (blk_cell BK379.out 0).trans rfl, (blk_cell BK379.out 1).trans rfl, (blk_cell BK379.out 2).trans rfl, (blk_cell BK386.out 0).trans rfl, (blk_cell BK386.out 1).trans rfl, (blk_cell BK386.out 2).trans rfl⟩ (fun hHeld => ?_)
               clear hK K
               refine norm_ (a' := ?_) ?_ ?_
               rotate_left
               ·show Act.put _ (some 88) _ = _
                simp only [Act.put, List.setIfInBounds_toArray, List.set_cons_zero, List.set_cons_succ, i64_w, i32_w]
                rfl
               refine one_ (i := 24) (N := some 89) #[true, true, true, true, true, true, true, true, true, true, true, true, true, true, true, true, true, true, true, true, true, true, true, true, true, false, false, false, false, false, false, false, false, false, false, false, false, false, false, false, false, false, false, false, false, false, false, false, false, false] rfl rfl (one_of HT_.out (by kernel_rfl)) (by decide) (fun K hK => ?_)
               refine goes_ Try.func17 (by kernel_rfl) rfl #[.agg #[.bool t421, .slice Ao88 t422.length co88, .int .i64 t425], .agg #[.bool t426, .slice Ao89 t427.length co89, .int .i64 t430]] (by rfl) rfl rfl (by (try simp only [List.map_toArray, List.map_cons, List.map_nil]); first | done | rfl | (simp only [List.length_drop, List.length_take]; rfl)) ?_
               with_reducible refine (rubricref5_Cmp.calls kj10 t421 _ _ t422 t425 t426 _ _ t427 t430 t431 _ ?side1 ?side2 ?side3 ?side4 A37.out).mono ?_
               (case side1 => repeat (first | exact (Kd.V_reads' HO424.out).2.2 | (with_reducible refine Kd.C_alloc ?_ _) | (with_reducible refine Kd.C_drewN ?_ _) | (with_reducible refine Kd.C_drew ?_)))
               (case side2 => exact (Kd.V_reads' HO424.out).2.1)
               (case side3 => repeat (first | exact (Kd.V_reads' HO429.out).2.2 | (with_reducible refine Kd.C_alloc ?_ _) | (with_reducible refine Kd.C_drewN ?_ _) | (with_reducible refine Kd.C_drew ?_)))
               (case side4 => exact (Kd.V_reads' HO429.out).2.1)
               rintro e w90 ⟨rfl, hb⟩
               refine ⟨_, rfl, ?_⟩
               have n0_ := Aside0.mk (Kd.V_below (S.v HO_380001.out) hb)
               have n1_ := Aside0.mk (Kd.V_below (S.v HO_387001.out) hb)
               have n2_ := Aside0.mk (Kd.V_below (S.v HO390.out) hb)
               have n3_ := Aside0.mk (Kd.V_below (S.v HO397.out) hb)
               have n4_ := Aside0.mk (Kd.V_below (S.v HO402.out) hb)
               have n5_ := Aside0.mk (Kd.R_below (S.r HO407.out) hb)
               have n6_ := Aside0.mk (Kd.V_below (S.v HO414.out) hb)
               have n7_ := Aside0.mk (Kd.V_below (S.v HO424.out) hb)
               have n8_ := Aside0.mk (Kd.V_below (S.v HO429.out) hb)
               have n9_ := Aside0.mk (blk_below (g := gb379) (o := .cells #[.bool t373, .slice Ao15 t374.length co15, .int .i64 t377] 25 (0, 0)) (S.b BK379.out) hb)
               have n10_ := Aside0.mk (blk_below (g := gb386) (o := .cells #[.bool t380, .slice Ao20 t381.length co20, .int .i64 t384] 25 (0, 0)) (S.b BK386.out) hb)
               have n11_ := Aside0.mk (blk_below (g := gb393) (o := .cells #[.bool t387, .slice Ao53 t388.length co53, .int .i64 t391] 25 (0, 0)) (S.b BK393.out) hb)
               have n12_ := Aside0.mk (blk_below (g := gb410) (o := .cells #[.bool t404, .slice Ao64 t405.length co64, .int .i64 t408] 36 (0, 0)) (S.b BK410.out) hb)
               have n13_ := Aside0.mk (blk_below (g := gb417) (o := .cells #[.bool t411, .slice Ao79 t412.length co79, .int .i64 t415] 25 (0, 0)) (S.b BK417.out) hb)
               have n14_ := Aside0.mk (below_step (by repeat (first | (with_reducible first | exact HB.out | apply below_alloc | apply pw_below_drewN | apply below_drew1 | refine below_set ?_ GE379.out | refine below_set ?_ GE386.out | refine below_set ?_ GE393.out | refine below_set ?_ GE410.out | refine below_set ?_ GE417.out) | exact HB.out)) hb)
               clear HO_380001
               clear HO_387001
               clear HO390
               clear HO397
               clear HO402
               clear HO407
               clear HO414
               clear HO424
               clear HO429
               clear BK379
               clear BK386
               clear BK393
               clear BK410
               clear BK417
               clear HB
               have HO_380001 := n0_
               have HO_387001 := n1_
               have HO390 := n2_
               have HO397 := n3_
               have HO402 := n4_
               have HO407 := n5_
               have HO414 := n6_
               have HO424 := n7_
               have HO429 := n8_
               have BK379 := n9_
               have BK386 := n10_
               have BK393 := n11_
               have BK410 := n12_
               have BK417 := n13_
               have HB := n14_
               clear n0_ n1_ n2_ n3_ n4_ n5_ n6_ n7_ n8_ n9_ n10_ n11_ n12_ n13_ n14_
               (try clear hb)
               (try clear hb2)
               (try clear hk)
               (try clear hi)
               refine hK.out _ _ ⟨(blk_cell BK393.out 0).trans rfl, (blk_cell BK393.out 1).trans rfl, (blk_cell BK393.out 2).trans rfl, (blk_cell BK410.out 0).trans rfl, (blk_cell BK410.out 1).trans rfl, (blk_cell BK410.out 2).trans rfl, (blk_cell BK417.out 0).trans rfl, (blk_cell BK417.out 1).trans rfl, (blk_cell BK417.out 2).trans rfl, (blk_cell BK379.out 0).trans rfl, (blk_cell BK379.out 1).trans rfl, (blk_cell BK379.out 2).trans rfl, (blk_cell BK386.out 0).trans rfl, (blk_cell BK386.out 1).trans rfl, (blk_cell BK386.out 2).trans rfl⟩ (fun hHeld => ?_)
               clear hK K
               refine norm_ (a' := ?_) ?_ ?_
               rotate_left
               ·show Act.put _ (some 89) _ = _
                simp only [Act.put, List.setIfInBounds_toArray, List.set_cons_zero, List.set_cons_succ, i64_w, i32_w]
                rfl
               refine pure_ (i := 25) (N := some 90) (v := ?_) (a' := ?_) #[true, true, true, true, true, true, true, true, true, true, true, true, true, true, true, true, true, true, true, true, true, true, true, true, true, true, false, false, false, false, false, false, false, false, false, false, false, false, false, false, false, false, false, false, false, false, false, false, false, false] rfl rfl (any_of HT_.out (by kernel_rfl)) (fun _ _ _ h => h) (Or.inl ⟨by rfl, ?_⟩) ?_ ?_
               rotate_left
               ·intro w'
                go_simp
                with_reducible rfl
               rotate_left
               ·simp only [Act.put, List.setIfInBounds_toArray, List.set_cons_zero, List.set_cons_succ, i64_w, i32_w]
                rfl
               refine pure_ (i := 26) (N := some 91) (v := ?_) (a' := ?_) #[true, true, true, true, true, true, true, true, true, true, true, true, true, true, true, true, true, true, true, true, true, true, true, true, true, true, true, false, false, false, false, false, false, false, false, false, false, false, false, false, false, false, false, false, false, false, false, false, false, false] rfl rfl (any_of HT_.out (by kernel_rfl)) (fun _ _ _ h => h) (Or.inl ⟨by rfl, ?_⟩) ?_ ?_
               rotate_left
               ·intro w'
                go_simp
                with_reducible rfl
               rotate_left
               ·simp only [Act.put, List.setIfInBounds_toArray, List.set_cons_zero, List.set_cons_succ, i64_w, i32_w]
                rfl
               refine pure_ (i := 27) (N := some 92) (v := ?_) (a' := ?_) #[true, true, true, true, true, true, true, true, true, true, true, true, true, true, true, true, true, true, true, true, true, true, true, true, true, true, true, true, false, false, false, false, false, false, false, false, false, false, false, false, false, false, false, false, false, false, false, false, false, false] rfl rfl (any_of HT_.out (by kernel_rfl)) (fun _ _ _ h => h) (Or.inl ⟨by rfl, ?_⟩) ?_ ?_
               rotate_left
               ·intro w'
                go_simp
                with_reducible rfl
               rotate_left
               ·simp only [Act.put, List.setIfInBounds_toArray, List.set_cons_zero, List.set_cons_succ, i64_w, i32_w]
                rfl
               refine pure_ (i := 31) (N := some 96) (v := ?_) (a' := ?_) #[true, true, true, true, true, true, true, true, true, true, true, true, true, true, true, true, true, true, true, true, true, true, true, true, true, true, true, true, false, false, false, true, false, false, false, false, false, false, false, false, false, false, false, false, false, false, false, false, false, false] rfl rfl (any_of HT_.out (by kernel_rfl)) (fun _ _ _ h => h) (Or.inl ⟨by rfl, ?_⟩) ?_ ?_
               rotate_left
               ·intro w'
                go_simp
                with_reducible rfl
               rotate_left
               ·simp only [Act.put, List.setIfInBounds_toArray, List.set_cons_zero, List.set_cons_succ, i64_w, i32_w]
                rfl
               refine pure_ (i := 32) (N := some 97) (v := ?_) (a' := ?_) #[true, true, true, true, true, true, true, true, true, true, true, true, true, true, true, true, true, true, true, true, true, true, true, true, true, true, true, true, false, false, false, true, true, false, false, false, false, false, false, false, false, false, false, false, false, false, false, false, false, false] rfl rfl (any_of HT_.out (by kernel_rfl)) (fun _ _ _ h => h) (Or.inl ⟨by rfl, ?_⟩) ?_ ?_
               rotate_left
               ·intro w'
                go_simp
                with_reducible rfl
               rotate_left
               ·simp only [Act.put, List.setIfInBounds_toArray, List.set_cons_zero, List.set_cons_succ, i64_w, i32_w]
                rfl
               refine take_ (i := 28) (N := some 93) (v := ?_) (a' := ?_) #[true, true, true, true, true, true, true, true, true, true, true, true, true, true, true, true, true, true, true, true, true, true, true, true, true, true, true, true, true, false, false, true, true, false, false, false, false, false, false, false, false, false, false, false, false, false, false, false, false, false] rfl rfl (take_ofW HT_.out HW_.out (by kernel_rfl)) (fun _ _ _ h => h) (Or.inl ⟨by rfl, ?_⟩) hHeld ?_ ?_
               rotate_left
               ·rintro w' ⟨s0, s1, s2, s3, s4, s5, s6, s7, s8, s9, s10, s11, s12, s13, s14⟩
                go_simp
                with_reducible rfl
               rotate_left
               ·simp only [Act.put, List.setIfInBounds_toArray, List.set_cons_zero, List.set_cons_succ, i64_w, i32_w]
                rfl
               refine take_ (i := 29) (N := some 94) (v := ?_) (a' := ?_) #[true, true, true, true, true, true, true, true, true, true, true, true, true, true, true, true, true, true, true, true, true, true, true, true, true, true, true, true, true, true, false, true, true, false, false, false, false, false, false, false, false, false, false, false, false, false, false, false, false, false] rfl rfl (take_ofW HT_.out HW_.out (by kernel_rfl)) (fun _ _ _ h => h) (Or.inl ⟨by rfl, ?_⟩) hHeld ?_ ?_
               rotate_left
               ·rintro w' ⟨s0, s1, s2, s3, s4, s5, s6, s7, s8, s9, s10, s11, s12, s13, s14⟩
                go_simp
                with_reducible rfl
               rotate_left
               ·simp only [Act.put, List.setIfInBounds_toArray, List.set_cons_zero, List.set_cons_succ, i64_w, i32_w]
                rfl
               refine one_ (i := 30) (N := some 95) #[true, true, true, true, true, true, true, true, true, true, true, true, true, true, true, true, true, true, true, true, true, true, true, true, true, true, true, true, true, true, true, true, true, false, false, false, false, false, false, false, false, false, false, false, false, false, false, false, false, false] rfl rfl (one_of HT_.out (by kernel_rfl)) (by decide) (fun K hK => ?_)
               refine goes_ Try.func8 (by kernel_rfl) rfl #[.agg #[.bool t380, .slice Ao20 t381.length co20, .int .i64 t384], .agg #[.bool t373, .slice Ao15 t374.length co15, .int .i64 t377]] (by rfl) rfl rfl (by (try simp only [List.map_toArray, List.map_cons, List.map_nil]); first | done | rfl | (simp only [List.length_drop, List.length_take]; rfl)) ?_
               with_reducible refine (dec_Cmp.calls kj10 t380 _ _ t381 t384 t373 _ _ t374 t377 t432 _ ?side1 ?side2 ?side3 ?side4 A39.out).mono ?_
               (case side1 => repeat (first | exact (Kd.V_reads' HO_387001.out).2.2 | (with_reducible refine Kd.C_alloc ?_ _) | (with_reducible refine Kd.C_drewN ?_ _) | (with_reducible refine Kd.C_drew ?_)))
               (case side2 => exact (Kd.V_reads' HO_387001.out).2.1)
               (case side3 => repeat (first | exact (Kd.V_reads' HO_380001.out).2.2 | (with_reducible refine Kd.C_alloc ?_ _) | (with_reducible refine Kd.C_drewN ?_ _) | (with_reducible refine Kd.C_drew ?_)))
               (case side4 => exact (Kd.V_reads' HO_380001.out).2.1)
               rintro e w91 ⟨rfl, hb⟩
               refine ⟨_, rfl, ?_⟩
               have n0_ := Aside0.mk (Kd.V_below (S.v HO_380001.out) hb)
               have n1_ := Aside0.mk (Kd.V_below (S.v HO_387001.out) hb)
               have n2_ := Aside0.mk (Kd.V_below (S.v HO390.out) hb)
               have n3_ := Aside0.mk (Kd.V_below (S.v HO397.out) hb)
               have n4_ := Aside0.mk (Kd.V_below (S.v HO402.out) hb)
               have n5_ := Aside0.mk (Kd.R_below (S.r HO407.out) hb)
               have n6_ := Aside0.mk (Kd.V_below (S.v HO414.out) hb)
               have n7_ := Aside0.mk (Kd.V_below (S.v HO424.out) hb)
               have n8_ := Aside0.mk (Kd.V_below (S.v HO429.out) hb)
               have n9_ := Aside0.mk (blk_below (g := gb379) (o := .cells #[.bool t373, .slice Ao15 t374.length co15, .int .i64 t377] 25 (0, 0)) (S.b BK379.out) hb)
               have n10_ := Aside0.mk (blk_below (g := gb386) (o := .cells #[.bool t380, .slice Ao20 t381.length co20, .int .i64 t384] 25 (0, 0)) (S.b BK386.out) hb)
               have n11_ := Aside0.mk (blk_below (g := gb393) (o := .cells #[.bool t387, .slice Ao53 t388.length co53, .int .i64 t391] 25 (0, 0)) (S.b BK393.out) hb)
               have n12_ := Aside0.mk (blk_below (g := gb410) (o := .cells #[.bool t404, .slice Ao64 t405.length co64, .int .i64 t408] 36 (0, 0)) (S.b BK410.out) hb)
               have n13_ := Aside0.mk (blk_below (g := gb417) (o := .cells #[.bool t411, .slice Ao79 t412.length co79, .int .i64 t415] 25 (0, 0)) (S.b BK417.out) hb)
               have n14_ := Aside0.mk (below_step (by repeat (first | (with_reducible first | exact HB.out | apply below_alloc | apply pw_below_drewN | apply below_drew1 | refine below_set ?_ GE379.out | refine below_set ?_ GE386.out | refine below_set ?_ GE393.out | refine below_set ?_ GE410.out | refine below_set ?_ GE417.out) | exact HB.out)) hb)
               clear HO_380001
               clear HO_387001
               clear HO390
               clear HO397
               clear HO402
               clear HO407
               clear HO414
               clear HO424
               clear HO429
               clear BK379
               clear BK386
               clear BK393
               clear BK410
               clear BK417
               clear HB
               have HO_380001 := n0_
               have HO_387001 := n1_
               have HO390 := n2_
               have HO397 := n3_
               have HO402 := n4_
               have HO407 := n5_
               have HO414 := n6_
               have HO424 := n7_
               have HO429 := n8_
               have BK379 := n9_
               have BK386 := n10_
               have BK393 := n11_
               have BK410 := n12_
               have BK417 := n13_
               have HB := n14_
               clear n0_ n1_ n2_ n3_ n4_ n5_ n6_ n7_ n8_ n9_ n10_ n11_ n12_ n13_ n14_
               (try clear hb)
               (try clear hb2)
               (try clear hk)
               (try clear hi)
               refine hK.out _ _ ⟨(blk_cell BK393.out 0).trans rfl, (blk_cell BK393.out 1).trans rfl, (blk_cell BK393.out 2).trans rfl, (blk_cell BK410.out 0).trans rfl, (blk_cell BK410.out 1).trans rfl, (blk_cell BK410.out 2).trans rfl, (blk_cell BK417.out 0).trans rfl, (blk_cell BK417.out 1).trans rfl, (blk_cell BK417.out 2).trans rfl, (blk_cell BK379.out 0).trans rfl, (blk_cell BK379.out 1).trans rfl, (blk_cell BK379.out 2).trans rfl, (blk_cell BK386.out 0).trans rfl, (blk_cell BK386.out 1).trans rfl, (blk_cell BK386.out 2).trans rfl⟩ (fun hHeld => ?_)
               clear hK K
               refine norm_ (a' := ?_) ?_ ?_
               rotate_left
               ·show Act.put _ (some 95) _ = _
                simp only [Act.put, List.setIfInBounds_toArray, List.set_cons_zero, List.set_cons_succ, i64_w, i32_w]
                rfl
               refine pure_ (i := 33) (N := some 98) (v := ?_) (a' := ?_) #[true, true, true, true, true, true, true, true, true, true, true, true, true, true, true, true, true, true, true, true, true, true, true, true, true, true, true, true, true, true, true, true, true, true, false, false, false, false, false, false, false, false, false, false, false, false, false, false, false, false] rfl rfl (any_of HT_.out (by kernel_rfl)) (fun _ _ _ h => h) (Or.inl ⟨by rfl, ?_⟩) ?_ ?_
               rotate_left
               ·intro w'
                go_simp
                with_reducible rfl
               rotate_left
               ·simp only [Act.put, List.setIfInBounds_toArray, List.set_cons_zero, List.set_cons_succ, i64_w, i32_w]
                rfl
               refine pure_ (i := 34) (N := some 99) (v := ?_) (a' := ?_) #[true, true, true, true, true, true, true, true, true, true, true, true, true, true, true, true, true, true, true, true, true, true, true, true, true, true, true, true, true, true, true, true, true, true, true, false, false, false, false, false, false, false, false, false, false, false, false, false, false, false] rfl rfl (any_of HT_.out (by kernel_rfl)) (fun _ _ _ h => h) (Or.inl ⟨by rfl, ?_⟩) ?_ ?_
               rotate_left
               ·intro w'
                go_simp
                with_reducible rfl
               rotate_left
               ·simp only [Act.put, List.setIfInBounds_toArray, List.set_cons_zero, List.set_cons_succ, i64_w, i32_w]
                rfl
               refine pure_ (i := 35) (N := some 100) (v := ?_) (a' := ?_) #[true, true, true, true, true, true, true, true, true, true, true, true, true, true, true, true, true, true, true, true, true, true, true, true, true, true, true, true, true, true, true, true, true, true, true, true, false, false, false, false, false, false, false, false, false, false, false, false, false, false] rfl rfl (any_of HT_.out (by kernel_rfl)) (fun _ _ _ h => h) (Or.inl ⟨by rfl, ?_⟩) ?_ ?_
               rotate_left
               ·intro w'
                go_simp
                with_reducible rfl
               rotate_left
               ·simp only [Act.put, List.setIfInBounds_toArray, List.set_cons_zero, List.set_cons_succ, i64_w, i32_w]
                rfl
               refine pure_ (i := 36) (N := some 101) (v := ?_) (a' := ?_) #[true, true, true, true, true, true, true, true, true, true, true, true, true, true, true, true, true, true, true, true, true, true, true, true, true, true, true, true, true, true, true, true, true, true, true, true, true, false, false, false, false, false, false, false, false, false, false, false, false, false] rfl rfl (any_of HT_.out (by kernel_rfl)) (fun _ _ _ h => h) (Or.inl ⟨by rfl, ?_⟩) ?_ ?_
               rotate_left
               ·intro w'
                go_simp
                with_reducible rfl
               rotate_left
               ·simp only [Act.put, List.setIfInBounds_toArray, List.set_cons_zero, List.set_cons_succ, i64_w, i32_w]
                rfl
               refine pure_ (i := 37) (N := some 102) (v := ?_) (a' := ?_) #[true, true, true, true, true, true, true, true, true, true, true, true, true, true, true, true, true, true, true, true, true, true, true, true, true, true, true, true, true, true, true, true, true, true, true, true, true, true, false, false, false, false, false, false, false, false, false, false, false, false] rfl rfl (any_of HT_.out (by kernel_rfl)) (fun _ _ _ h => h) (Or.inl ⟨by rfl, ?_⟩) ?_ ?_
               rotate_left
               ·intro w'
                go_simp
                with_reducible rfl
               rotate_left
               ·simp only [Act.put, List.setIfInBounds_toArray, List.set_cons_zero, List.set_cons_succ, i64_w, i32_w]
                rfl
               refine take_ (i := 38) (N := some 103) (v := ?_) (a' := ?_) #[true, true, true, true, true, true, true, true, true, true, true, true, true, true, true, true, true, true, true, true, true, true, true, true, true, true, true, true, true, true, true, true, true, true, true, true, true, true, true, false, false, false, false, false, false, false, false, false, false, false] rfl rfl (take_ofW HT_.out HW_.out (by kernel_rfl)) (fun _ _ _ h => h) (Or.inl ⟨by rfl, ?_⟩) hHeld ?_ ?_
               rotate_left
               ·rintro w' ⟨s0, s1, s2, s3, s4, s5, s6, s7, s8, s9, s10, s11, s12, s13, s14⟩
                go_simp
                with_reducible rfl
               rotate_left
               ·simp only [Act.put, List.setIfInBounds_toArray, List.set_cons_zero, List.set_cons_succ, i64_w, i32_w]
                rfl
               refine take_ (i := 40) (N := some 105) (v := ?_) (a' := ?_) #[true, true, true, true, true, true, true, true, true, true, true, true, true, true, true, true, true, true, true, true, true, true, true, true, true, true, true, true, true, true, true, true, true, true, true, true, true, true, true, false, true, false, false, false, false, false, false, false, false, false] rfl rfl (take_ofW HT_.out HW_.out (by kernel_rfl)) (fun _ _ _ h => h) (Or.inl ⟨by rfl, ?_⟩) hHeld ?_ ?_
               rotate_left
               ·rintro w' ⟨s0, s1, s2, s3, s4, s5, s6, s7, s8, s9, s10, s11, s12, s13, s14⟩
                go_simp
                with_reducible rfl
               rotate_left
               ·simp only [Act.put, List.setIfInBounds_toArray, List.set_cons_zero, List.set_cons_succ, i64_w, i32_w]
                rfl
               refine one_ (i := 39) (N := some 104) #[true, true, true, true, true, true, true, true, true, true, true, true, true, true, true, true, true, true, true, true, true, true, true, true, true, true, true, true, true, true, true, true, true, true, true, true, true, true, true, true, true, false, false, false, false, false, false, false, false, false] rfl rfl (one_of HT_.out (by kernel_rfl)) (by decide) (fun K hK => ?_)
               refine goes_ Try.func9 (by kernel_rfl) rfl #[.agg #[.bool t373, .slice Ao15 t374.length co15, .int .i64 t377]] (by rfl) rfl rfl (by (try simp only [List.map_toArray, List.map_cons, List.map_nil]); first | done | rfl | (simp only [List.length_drop, List.length_take]; rfl)) ?_
               with_reducible refine (G.dec_Dec_Text.calls t373 _ _ t374 t377 t433 _ ?side1 ?side2 A41.out).mono ?_
               (case side1 => repeat (first | exact (Kd.V_reads' HO_380001.out).2.2 | (with_reducible refine Kd.C_alloc ?_ _) | (with_reducible refine Kd.C_drewN ?_ _) | (with_reducible refine Kd.C_drew ?_)))
               (case side2 => exact (Kd.V_reads' HO_380001.out).2.1)
               rintro e w92 ⟨rfl, hb⟩
               refine ⟨_, rfl, ?_⟩
               have n0_ := Aside0.mk (Kd.V_below (S.v HO_380001.out) hb)
               have n1_ := Aside0.mk (Kd.V_below (S.v HO_387001.out) hb)
               have n2_ := Aside0.mk (Kd.V_below (S.v HO390.out) hb)
               have n3_ := Aside0.mk (Kd.V_below (S.v HO397.out) hb)
               have n4_ := Aside0.mk (Kd.V_below (S.v HO402.out) hb)
               have n5_ := Aside0.mk (Kd.R_below (S.r HO407.out) hb)
               have n6_ := Aside0.mk (Kd.V_below (S.v HO414.out) hb)
               have n7_ := Aside0.mk (Kd.V_below (S.v HO424.out) hb)
               have n8_ := Aside0.mk (Kd.V_below (S.v HO429.out) hb)
               have n9_ := Aside0.mk (blk_below (g := gb379) (o := .cells #[.bool t373, .slice Ao15 t374.length co15, .int .i64 t377] 25 (0, 0)) (S.b BK379.out) hb)
               have n10_ := Aside0.mk (blk_below (g := gb386) (o := .cells #[.bool t380, .slice Ao20 t381.length co20, .int .i64 t384] 25 (0, 0)) (S.b BK386.out) hb)
               have n11_ := Aside0.mk (blk_below (g := gb393) (o := .cells #[.bool t387, .slice Ao53 t388.length co53, .int .i64 t391] 25 (0, 0)) (S.b BK393.out) hb)
               have n12_ := Aside0.mk (blk_below (g := gb410) (o := .cells #[.bool t404, .slice Ao64 t405.length co64, .int .i64 t408] 36 (0, 0)) (S.b BK410.out) hb)
               have n13_ := Aside0.mk (blk_below (g := gb417) (o := .cells #[.bool t411, .slice Ao79 t412.length co79, .int .i64 t415] 25 (0, 0)) (S.b BK417.out) hb)
               have n14_ := Aside0.mk (below_step (by repeat (first | (with_reducible first | exact HB.out | apply below_alloc | apply pw_below_drewN | apply below_drew1 | refine below_set ?_ GE379.out | refine below_set ?_ GE386.out | refine below_set ?_ GE393.out | refine below_set ?_ GE410.out | refine below_set ?_ GE417.out) | exact HB.out)) hb)
               clear HO_380001
               clear HO_387001
               clear HO390
               clear HO397
               clear HO402
               clear HO407
               clear HO414
               clear HO424
               clear HO429
               clear BK379
               clear BK386
               clear BK393
               clear BK410
               clear BK417
               clear HB
               have HO_380001 := n0_
               have HO_387001 := n1_
               have HO390 := n2_
               have HO397 := n3_
               have HO402 := n4_
               have HO407 := n5_
               have HO414 := n6_
               have HO424 := n7_
               have HO429 := n8_
               have BK379 := n9_
               have BK386 := n10_
               have BK393 := n11_
               have BK410 := n12_
               have BK417 := n13_
               have HB := n14_
               clear n0_ n1_ n2_ n3_ n4_ n5_ n6_ n7_ n8_ n9_ n10_ n11_ n12_ n13_ n14_
               (try clear hb)
               (try clear hb2)
               (try clear hk)
               (try clear hi)
               refine hK.out _ _ ⟨(blk_cell BK393.out 0).trans rfl, (blk_cell BK393.out 1).trans rfl, (blk_cell BK393.out 2).trans rfl, (blk_cell BK410.out 0).trans rfl, (blk_cell BK410.out 1).trans rfl, (blk_cell BK410.out 2).trans rfl, (blk_cell BK417.out 0).trans rfl, (blk_cell BK417.out 1).trans rfl, (blk_cell BK417.out 2).trans rfl, (blk_cell BK379.out 0).trans rfl, (blk_cell BK379.out 1).trans rfl, (blk_cell BK379.out 2).trans rfl, (blk_cell BK386.out 0).trans rfl, (blk_cell BK386.out 1).trans rfl, (blk_cell BK386.out 2).trans rfl⟩ (fun hHeld => ?_)
               clear hK K
               refine norm_ (a' := ?_) ?_ ?_
               rotate_left
               ·show Act.put _ (some 104) _ = _
                simp only [Act.put, List.setIfInBounds_toArray, List.set_cons_zero, List.set_cons_succ, i64_w, i32_w]
                rfl
               refine one_ (i := 41) (N := some 106) #[true, true, true, true, true, true, true, true, true, true, true, true, true, true, true, true, true, true, true, true, true, true, true, true, true, true, true, true, true, true, true, true, true, true, true, true, true, true, true, true, true, true, false, false, false, false, false, false, false, false] rfl rfl (one_of HT_.out (by kernel_rfl)) (by decide) (fun K hK => ?_)
               refine goes_ Try.func9 (by kernel_rfl) rfl #[.agg #[.bool t380, .slice Ao20 t381.length co20, .int .i64 t384]] (by rfl) rfl rfl (by (try simp only [List.map_toArray, List.map_cons, List.map_nil]); first | done | rfl | (simp only [List.length_drop, List.length_take]; rfl)) ?_
               with_reducible refine (G.dec_Dec_Text.calls t380 _ _ t381 t384 t434 _ ?side1 ?side2 A42.out).mono ?_
               (case side1 => repeat (first | exact (Kd.V_reads' HO_387001.out).2.2 | (with_reducible refine Kd.C_alloc ?_ _) | (with_reducible refine Kd.C_drewN ?_ _) | (with_reducible refine Kd.C_drew ?_)))
               (case side2 => exact (Kd.V_reads' HO_387001.out).2.1)
               rintro e w93 ⟨rfl, hb⟩
               refine ⟨_, rfl, ?_⟩
               have n0_ := Aside0.mk (Kd.V_below (S.v HO_380001.out) hb)
               have n1_ := Aside0.mk (Kd.V_below (S.v HO_387001.out) hb)
               have n2_ := Aside0.mk (Kd.V_below (S.v HO390.out) hb)
               have n3_ := Aside0.mk (Kd.V_below (S.v HO397.out) hb)
               have n4_ := Aside0.mk (Kd.V_below (S.v HO402.out) hb)
               have n5_ := Aside0.mk (Kd.R_below (S.r HO407.out) hb)
               have n6_ := Aside0.mk (Kd.V_below (S.v HO414.out) hb)
               have n7_ := Aside0.mk (Kd.V_below (S.v HO424.out) hb)
               have n8_ := Aside0.mk (Kd.V_below (S.v HO429.out) hb)
               have n9_ := Aside0.mk (blk_below (g := gb379) (o := .cells #[.bool t373, .slice Ao15 t374.length co15, .int .i64 t377] 25 (0, 0)) (S.b BK379.out) hb)
               have n10_ := Aside0.mk (blk_below (g := gb386) (o := .cells #[.bool t380, .slice Ao20 t381.length co20, .int .i64 t384] 25 (0, 0)) (S.b BK386.out) hb)
               have n11_ := Aside0.mk (blk_below (g := gb393) (o := .cells #[.bool t387, .slice Ao53 t388.length co53, .int .i64 t391] 25 (0, 0)) (S.b BK393.out) hb)
               have n12_ := Aside0.mk (blk_below (g := gb410) (o := .cells #[.bool t404, .slice Ao64 t405.length co64, .int .i64 t408] 36 (0, 0)) (S.b BK410.out) hb)
               have n13_ := Aside0.mk (blk_below (g := gb417) (o := .cells #[.bool t411, .slice Ao79 t412.length co79, .int .i64 t415] 25 (0, 0)) (S.b BK417.out) hb)
               have n14_ := Aside0.mk (below_step (by repeat (first | (with_reducible first | exact HB.out | apply below_alloc | apply pw_below_drewN | apply below_drew1 | refine below_set ?_ GE379.out | refine below_set ?_ GE386.out | refine below_set ?_ GE393.out | refine below_set ?_ GE410.out | refine below_set ?_ GE417.out) | exact HB.out)) hb)
               clear HO_380001
               clear HO_387001
               clear HO390
               clear HO397
               clear HO402
               clear HO407
               clear HO414
               clear HO424
               clear HO429
               clear BK379
               clear BK386
               clear BK393
               clear BK410
               clear BK417
               clear HB
               have HO_380001 := n0_
               have HO_387001 := n1_
               have HO390 := n2_
               have HO397 := n3_
               have HO402 := n4_
               have HO407 := n5_
               have HO414 := n6_
               have HO424 := n7_
               have HO429 := n8_
               have BK379 := n9_
               have BK386 := n10_
               have BK393 := n11_
               have BK410 := n12_
               have BK417 := n13_
               have HB := n14_
               clear n0_ n1_ n2_ n3_ n4_ n5_ n6_ n7_ n8_ n9_ n10_ n11_ n12_ n13_ n14_
               (try clear hb)
               (try clear hb2)
               (try clear hk)
               (try clear hi)
               refine hK.out _ _ ⟨(blk_cell BK393.out 0).trans rfl, (blk_cell BK393.out 1).trans rfl, (blk_cell BK393.out 2).trans rfl, (blk_cell BK410.out 0).trans rfl, (blk_cell BK410.out 1).trans rfl, (blk_cell BK410.out 2).trans rfl, (blk_cell BK417.out 0).trans rfl, (blk_cell BK417.out 1).trans rfl, (blk_cell BK417.out 2).trans rfl, (blk_cell BK379.out 0).trans rfl, (blk_cell BK379.out 1).trans rfl, (blk_cell BK379.out 2).trans rfl, (blk_cell BK386.out 0).trans rfl, (blk_cell BK386.out 1).trans rfl, (blk_cell BK386.out 2).trans rfl⟩ (fun hHeld => ?_)
               clear hK K
               refine norm_ (a' := ?_) ?_ ?_
               rotate_left
               ·show Act.put _ (some 106) _ = _
                simp only [Act.put, List.setIfInBounds_toArray, List.set_cons_zero, List.set_cons_succ, i64_w, i32_w]
                rfl
               refine pure_ (i := 42) (N := some 107) (v := ?_) (a' := ?_) #[true, true, true, true, true, true, true, true, true, true, true, true, true, true, true, true, true, true, true, true, true, true, true, true, true, true, true, true, true, true, true, true, true, true, true, true, true, true, true, true, true, true, true, false, false, false, false, false, false, false] rfl rfl (any_of HT_.out (by kernel_rfl)) (fun _ _ _ h => h) (Or.inl ⟨by rfl, ?_⟩) ?_ ?_
               rotate_left
               ·intro w'
                go_simp
                with_reducible rfl
               rotate_left
               ·simp only [Act.put, List.setIfInBounds_toArray, List.set_cons_zero, List.set_cons_succ, i64_w, i32_w]
                rfl
               refine pure_ (i := 43) (N := some 108) (v := ?_) (a' := ?_) #[true, true, true, true, true, true, true, true, true, true, true, true, true, true, true, true, true, true, true, true, true, true, true, true, true, true, true, true, true, true, true, true, true, true, true, true, true, true, true, true, true, true, true, true, false, false, false, false, false, false] rfl rfl (any_of HT_.out (by kernel_rfl)) (fun _ _ _ h => h) (Or.inl ⟨by rfl, ?_⟩) ?_ ?_
               rotate_left
               ·intro w'
                go_simp
                with_reducible rfl
               rotate_left
               ·simp only [Act.put, List.setIfInBounds_toArray, List.set_cons_zero, List.set_cons_succ, i64_w, i32_w]
                rfl
               refine pure_ (i := 44) (N := some 109) (v := ?_) (a' := ?_) #[true, true, true, true, true, true, true, true, true, true, true, true, true, true, true, true, true, true, true, true, true, true, true, true, true, true, true, true, true, true, true, true, true, true, true, true, true, true, true, true, true, true, true, true, true, false, false, false, false, false] rfl rfl (any_of HT_.out (by kernel_rfl)) (fun _ _ _ h => h) (Or.inl ⟨by rfl, ?_⟩) ?_ ?_
               rotate_left
               ·intro w'
                go_simp
                with_reducible rfl
               rotate_left
               ·simp only [Act.put, List.setIfInBounds_toArray, List.set_cons_zero, List.set_cons_succ, i64_w, i32_w]
                rfl
               refine pure_ (i := 45) (N := some 110) (v := ?_) (a' := ?_) #[true, true, true, true, true, true, true, true, true, true, true, true, true, true, true, true, true, true, true, true, true, true, true, true, true, true, true, true, true, true, true, true, true, true, true, true, true, true, true, true, true, true, true, true, true, true, false, false, false, false] rfl rfl (any_of HT_.out (by kernel_rfl)) (fun _ _ _ h => h) (Or.inl ⟨by rfl, ?_⟩) ?_ ?_
               rotate_left
               ·intro w'
                go_simp
                with_reducible rfl
               rotate_left
               ·simp only [Act.put, List.setIfInBounds_toArray, List.set_cons_zero, List.set_cons_succ, i64_w, i32_w]
                rfl
               refine take_ (i := 46) (N := some 111) (v := ?_) (a' := ?_) #[true, true, true, true, true, true, true, true, true, true, true, true, true, true, true, true, true, true, true, true, true, true, true, true, true, true, true, true, true, true, true, true, true, true, true, true, true, true, true, true, true, true, true, true, true, true, true, false, false, false] rfl rfl (take_ofW HT_.out HW_.out (by kernel_rfl)) (fun _ _ _ h => h) (Or.inl ⟨by rfl, ?_⟩) hHeld ?_ ?_
               rotate_left
               ·rintro w' ⟨s0, s1, s2, s3, s4, s5, s6, s7, s8, s9, s10, s11, s12, s13, s14⟩
                go_simp
                with_reducible rfl
               rotate_left
               ·simp only [Act.put, List.setIfInBounds_toArray, List.set_cons_zero, List.set_cons_succ, i64_w, i32_w]
                rfl
               refine one_ (i := 47) (N := some 112) #[true, true, true, true, true, true, true, true, true, true, true, true, true, true, true, true, true, true, true, true, true, true, true, true, true, true, true, true, true, true, true, true, true, true, true, true, true, true, true, true, true, true, true, true, true, true, true, true, false, false] rfl rfl (one_of HT_.out (by kernel_rfl)) (by decide) (fun K hK => ?_)
               refine goes_ Try.func18 (by kernel_rfl) rfl #[.agg #[.bool t387, .slice Ao53 t388.length co53, .int .i64 t391]] (by rfl) rfl rfl (by (try simp only [List.map_toArray, List.map_cons, List.map_nil]); first | done | rfl | (simp only [List.length_drop, List.length_take]; rfl)) ?_
               with_reducible refine (dec_Dec_Right.calls kj10 t387 _ _ t388 t391 t435 _ ?side1 ?side2 A44.out).mono ?_
               (case side1 => repeat (first | exact (Kd.V_reads' HO390.out).2.2 | (with_reducible refine Kd.C_alloc ?_ _) | (with_reducible refine Kd.C_drewN ?_ _) | (with_reducible refine Kd.C_drew ?_)))
               (case side2 => exact (Kd.V_reads' HO390.out).2.1)
               rintro e w94 ⟨rfl, hb⟩
               refine ⟨_, rfl, ?_⟩
               have n0_ := Aside0.mk (Kd.V_below (S.v HO_380001.out) hb)
               have n1_ := Aside0.mk (Kd.V_below (S.v HO_387001.out) hb)
               have n2_ := Aside0.mk (Kd.V_below (S.v HO390.out) hb)
               have n3_ := Aside0.mk (Kd.V_below (S.v HO397.out) hb)
               have n4_ := Aside0.mk (Kd.V_below (S.v HO402.out) hb)
               have n5_ := Aside0.mk (Kd.R_below (S.r HO407.out) hb)
               have n6_ := Aside0.mk (Kd.V_below (S.v HO414.out) hb)
               have n7_ := Aside0.mk (Kd.V_below (S.v HO424.out) hb)
               have n8_ := Aside0.mk (Kd.V_below (S.v HO429.out) hb)
               have n9_ := Aside0.mk (blk_below (g := gb379) (o := .cells #[.bool t373, .slice Ao15 t374.length co15, .int .i64 t377] 25 (0, 0)) (S.b BK379.out) hb)
               have n10_ := Aside0.mk (blk_below (g := gb386) (o := .cells #[.bool t380, .slice Ao20 t381.length co20, .int .i64 t384] 25 (0, 0)) (S.b BK386.out) hb)
               have n11_ := Aside0.mk (blk_below (g := gb393) (o := .cells #[.bool t387, .slice Ao53 t388.length co53, .int .i64 t391] 25 (0, 0)) (S.b BK393.out) hb)
               have n12_ := Aside0.mk (blk_below (g := gb410) (o := .cells #[.bool t404, .slice Ao64 t405.length co64, .int .i64 t408] 36 (0, 0)) (S.b BK410.out) hb)
               have n13_ := Aside0.mk (blk_below (g := gb417) (o := .cells #[.bool t411, .slice Ao79 t412.length co79, .int .i64 t415] 25 (0, 0)) (S.b BK417.out) hb)
               have n14_ := Aside0.mk (below_step (by repeat (first | (with_reducible first | exact HB.out | apply below_alloc | apply pw_below_drewN | apply below_drew1 | refine below_set ?_ GE379.out | refine below_set ?_ GE386.out | refine below_set ?_ GE393.out | refine below_set ?_ GE410.out | refine below_set ?_ GE417.out) | exact HB.out)) hb)
               clear HO_380001
               clear HO_387001
               clear HO390
               clear HO397
               clear HO402
               clear HO407
               clear HO414
               clear HO424
               clear HO429
               clear BK379
               clear BK386
               clear BK393
               clear BK410
               clear BK417
               clear HB
               have HO_380001 := n0_
               have HO_387001 := n1_
               have HO390 := n2_
               have HO397 := n3_
               have HO402 := n4_
               have HO407 := n5_
               have HO414 := n6_
               have HO424 := n7_
               have HO429 := n8_
               have BK379 := n9_
               have BK386 := n10_
               have BK393 := n11_
               have BK410 := n12_
               have BK417 := n13_
               have HB := n14_
               clear n0_ n1_ n2_ n3_ n4_ n5_ n6_ n7_ n8_ n9_ n10_ n11_ n12_ n13_ n14_
               (try clear hb)
               (try clear hb2)
               (try clear hk)
               (try clear hi)
               refine hK.out _ _ ⟨(blk_cell BK393.out 0).trans rfl, (blk_cell BK393.out 1).trans rfl, (blk_cell BK393.out 2).trans rfl, (blk_cell BK410.out 0).trans rfl, (blk_cell BK410.out 1).trans rfl, (blk_cell BK410.out 2).trans rfl, (blk_cell BK417.out 0).trans rfl, (blk_cell BK417.out 1).trans rfl, (blk_cell BK417.out 2).trans rfl, (blk_cell BK379.out 0).trans rfl, (blk_cell BK379.out 1).trans rfl, (blk_cell BK379.out 2).trans rfl, (blk_cell BK386.out 0).trans rfl, (blk_cell BK386.out 1).trans rfl, (blk_cell BK386.out 2).trans rfl⟩ (fun hHeld => ?_)
               clear hK K
               refine norm_ (a' := ?_) ?_ ?_
               rotate_left
               ·show Act.put _ (some 112) _ = _
                simp only [Act.put, List.setIfInBounds_toArray, List.set_cons_zero, List.set_cons_succ, i64_w, i32_w]
                rfl
               refine pure_ (i := 48) (N := some 113) (v := ?_) (a' := ?_) #[true, true, true, true, true, true, true, true, true, true, true, true, true, true, true, true, true, true, true, true, true, true, true, true, true, true, true, true, true, true, true, true, true, true, true, true, true, true, true, true, true, true, true, true, true, true, true, true, true, false] rfl rfl (any_of HT_.out (by kernel_rfl)) (fun _ _ _ h => h) (Or.inl ⟨by rfl, ?_⟩) ?_ ?_
               rotate_left
               ·intro w'
                go_simp
                with_reducible rfl
               rotate_left
               ·simp only [Act.put, List.setIfInBounds_toArray, List.set_cons_zero, List.set_cons_succ, i64_w, i32_w]
                rfl
               refine pure_ (i := 49) (N := some 4) (v := ?_) (a' := ?_) #[true, true, true, true, true, true, true, true, true, true, true, true, true, true, true, true, true, true, true, true, true, true, true, true, true, true, true, true, true, true, true, true, true, true, true, true, true, true, true, true, true, true, true, true, true, true, true, true, true, true] rfl rfl (any_of HT_.out (by kernel_rfl)) (fun _ _ _ h => h) (Or.inl ⟨by rfl, ?_⟩) ?_ ?_
               rotate_left
               ·intro w'
                go_simp
                with_reducible rfl
               rotate_left
               ·simp only [Act.put, List.setIfInBounds_toArray, List.set_cons_zero, List.set_cons_succ, i64_w, i32_w]
                rfl
               refine done_ (done_of HT_.out (by kernel_rfl)) ?_
               try go_wp2
               go_ret
               exact ⟨by first | rfl | (simp [errW_none, errW_some] <;> rfl) | (simp [*, errW_none, errW_some] <;> rfl), by repeat (first | (with_reducible first | exact HB.out | apply below_alloc | apply pw_below_drewN | apply below_drew1 | refine below_set ?_ GE379.out | refine below_set ?_ GE386.out | refine below_set ?_ GE393.out | refine below_set ?_ GE410.out | refine below_set ?_ GE417.out) | exact HB.out)⟩
              ·rw [if_neg c43] at H
               have c43b0 : ((t418 == 0) == (t433.toList == t434.toList)) = false := by simpa using c43
               (try (have c43b1 : decide ((t418 == 0) = (t433.toList == t434.toList)) = false := by simpa using c43))
               (try (have c43b2 : ((t418 == 0) == (t433.toList == t434.toList)) = false := by simpa using c43))
               (try (have c43b3 : ¬ ((t418 == 0) = (t433.toList == t434.toList)) := by simpa using c43))
               clear c43
               exact absurd ((Option.some.inj H).trans HRT.out) (by decide)
             ·rw [if_neg c40] at H
              have c40b0 : (t432 == (wrap64 (-t418))) = false := beq_eq_false_iff_ne.mpr c40
              have c40b1 : (t432 != (wrap64 (-t418))) = true := bne_iff_ne.mpr c40
              exact absurd ((Option.some.inj H).trans HRT.out) (by decide)
            ·rw [if_neg c38] at H
             have c38b0 : (t418 == t431) = false := beq_eq_false_iff_ne.mpr c38
             have c38b1 : (t418 != t431) = true := bne_iff_ne.mpr c38
             exact absurd ((Option.some.inj H).trans HRT.out) (by decide)
           ·rw [if_neg c34] at H
            have c34b0 : (t392 == t416) = false := beq_eq_false_iff_ne.mpr c34
            have c34b1 : (t392 != t416) = true := bne_iff_ne.mpr c34
            exact absurd ((Option.some.inj H).trans HRT.out) (by decide)
          ·replace c33 := Bool.eq_false_iff.mpr c33
           subst c33
           have H1 : (some false) = some r := by rw [if_neg (show ¬ (false = true) by decide)] at H; exact H
           clear H
           have H := H1
           clear H1
           exact absurd ((Option.some.inj H).trans HRT.out) (by decide)
         ·rw [if_neg c31] at H
          have c31b0 : (t392 == t409) = false := beq_eq_false_iff_ne.mpr c31
          have c31b1 : (t392 != t409) = true := bne_iff_ne.mpr c31
          exact absurd ((Option.some.inj H).trans HRT.out) (by decide)
        ·replace c30 := Bool.eq_false_iff.mpr c30
         subst c30
         have H1 : (some false) = some r := by rw [if_neg (show ¬ (false = true) by decide)] at H; exact H
         clear H
         have H := H1
         clear H1
         exact absurd ((Option.some.inj H).trans HRT.out) (by decide)
 ·replace c4 := Bool.eq_false_iff.mpr c4
  subst c4
  have H1 : (some false) = some r := by rw [if_neg (show ¬ (false = true) by decide)] at H; exact H
  clear H
  have H := H1
  clear H1
  exact absurd ((Option.some.inj H).trans HRT.out) (by decide)

/-- THE ONE PURE STATEMENT of rubriclaw5_DecPairs: yours. -/
def rubriclaw5_DecPairs.Pure : Prop := ∀ (a0 : ByteArray) (a1 : ByteArray), a0.size ≤ 140737488351232 → a1.size ≤ 140737488351232 → ∃ k, rubriclaw5_DecPairs.f k a0 a1 = some true
theorem rubriclaw5_DecPairs.walk (P : rubriclaw5_DecPairs.Pure) (a0 : ByteArray) (a1 : ByteArray) (w : World) (w0 : a0.size ≤ 140737488351232) (w1 : a1.size ≤ 140737488351232) :
  Calls Try.prog 5 #[.string a0, .string a1] w fun e w' => e = .returned (.bool true) ∧ Below w.heap.size w w' := by
 obtain ⟨k, h⟩ := P a0 a1 w0 w1
 refine (rubriclaw5_DecPairs.calls k a0 a1 true w h rfl).mono ?_
 rintro e w' ⟨rfl, hd⟩
 exact ⟨rfl, hd⟩

end Go.Proofs.Ytnafjabpkbahdaa.Pr
