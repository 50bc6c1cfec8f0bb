-- printed by wip/gprint.py (ours) out of the translation, by the kit's print program with given contracts
import Derived.Test.YtnafjabpkbahdaaPrx0
import Derived.Test.YtnafjabpkbahdaaPrx1
import Derived.Test.YtnafjabpkbahdaaPrx2
import Derived.Test.YtnafjabpkbahdaaPrx3
import Derived.Test.YtnafjabpkbahdaaPrx4
namespace Go.Proofs.Ytnafjabpkbahdaa.Pr
open Go.RowKit Go.Proofs.YtnafjabpkbahdaaW.PrintWords Go.Proofs.YtnafjabpkbahdaaW.PrintLast Go.Proofs.YtnafjabpkbahdaaW.PrintMore
attribute [local go_sem] max2_int min2_int max_two min_two max_three min_three max_four min_four   -- for this text's walks alone
set_option linter.unusedVariables false
set_option linter.unusedSimpArgs false

-- given: function 28 (dec_zero): its contract is G.dec_zero.calls, proved by hand
-- given: function 29 (slices_Clone_byte_byte): its contract is G.slices_Clone_byte_byte.calls, proved by hand
/-! ### dec_Neg: function 13 -/
def dec_Neg.f (a0_0 : Bool) (l0_1 : List Int) (a0_2 : Int) : Option (Bool × List Int × Int) := if a0_0 = true then ((G.slices_Clone_byte_byte.f l0_1).bind fun t154 => (some (false, t154, a0_2))) else ((G.dec_zero.f l0_1).bind fun t157 => ((G.slices_Clone_byte_byte.f l0_1).bind fun t158 => (some (!t157, t158, a0_2))))
def dec_Neg.T1 : Bool × List (List Nat × List Nat) := (true, [([], []), ([0], [0]), ([1], [1]), ([2], [2]), ([3], [3]), ([4, 3], [3, 4]), ([5, 3, 3], [3, 5]), ([6, 3], [3, 6]), ([3, 7], [3, 7]), ([], []), ([9], [9]), ([10, 6], [10]), ([], []), ([12], [12]), ([8, 11, 13], [8, 11, 13]), ([14, 11, 0, 1, 2, 3, 4, 5, 6, 7, 8, 9, 10, 11, 12, 13, 14], [14])])
def dec_Neg.B1 : List Nat := [0, 1, 3, 7, 15, 31, 63, 127, 255, 0, 512, 1663, 0, 4096, 16383, 32767]
theorem dec_Neg.tab1 : rtab .any (opsOf Try.f13 1) = dec_Neg.T1 := by kernel_rfl
theorem dec_Neg.bits1 : waitsOk dec_Neg.T1.2 dec_Neg.B1 = true := by kernel_rfl
set_option maxHeartbeats 8000000 in
set_option maxRecDepth 100000 in
theorem dec_Neg.calls (a0_0 : Bool) (A0_1 : Option Addr) (c0_1 : Nat) (l0_1 : List Int) (a0_2 : Int) (r1 : Bool) (r2 : List Int) (r3 : Int) (w : World) (hr0_1 : Kd.C (Kd.int .u8) w A0_1 l0_1.length l0_1) (hc0_1 : l0_1.length ≤ c0_1) (h : dec_Neg.f a0_0 l0_1 a0_2 = some (r1, r2, r3)) :
  Calls Try.prog 13 #[.agg #[.bool a0_0, .slice A0_1 l0_1.length c0_1, .int .i64 a0_2]] w fun e w' => ∃ v1_ : Value, e = .returned (.agg #[.bool r1, v1_, .int .i64 r3]) ∧ Kd.R (Kd.int .u8) 5 w' w.heap.size (fun _ => True) v1_ r2 ∧ Below w.heap.size w w' := by
 have hu25 := Try.underlying25
 have HR0_1 := Aside0.mk hr0_1
 have HC0_1 := Aside0.mk hc0_1
 clear hr0_1 hc0_1
 have HB := Aside0.mk (Below.refl w.heap.size w)
 have H : (if a0_0 = true then ((G.slices_Clone_byte_byte.f l0_1).bind fun t154 => (some (false, t154, a0_2))) else ((G.dec_zero.f l0_1).bind fun t157 => ((G.slices_Clone_byte_byte.f l0_1).bind fun t158 => (some (!t157, t158, a0_2))))) = some (r1, r2, r3) := h
 clear h
 by_cases c2 : a0_0 = true
 ·subst c2
  have H1 : ((G.slices_Clone_byte_byte.f l0_1).bind fun t154 => (some (false, t154, a0_2))) = some (r1, r2, r3) := by rw [if_pos rfl] at H; exact H
  clear H
  have H := H1
  clear H1
  replace H := Option.bind_eq_some_iff.mp H
  obtain ⟨t154, A30, H⟩ := H
  replace H : (some (false, t154, a0_2)) = some (r1, r2, r3) := H
  have A3 := Aside0.mk A30
  clear A30
  simp only [Option.some.injEq, Prod.mk.injEq] at H
  obtain ⟨rfl, rfl, rfl⟩ := H
  go_enter Try.func13, Try.ntmps13
  try go_wp2_with (first | ((with_reducible refine gate_dst (N := 1) rfl ?_); refine box_event ?hg (N := 1) ?hd (cs := #[.bool true, .slice A0_1 l0_1.length c0_1, .int .i64 a0_2]) (t := 25) ?hr ?_; (case hd => rfl); (case hg => rfl); (case hr => first | (go_simp; done) | (go_simp; rfl)); intro gb152 hg w4 hbox hb; have n0_ := Aside0.mk (below_step (by repeat (first | (with_reducible first | exact HB.out | apply below_alloc | apply pw_below_drewN | apply below_drew1) | exact HB.out)) hb); have n1_ := Aside0.mk (hbox); have n2_ := Aside0.mk ((by rw [hg]; exact (below_size (by repeat (first | (with_reducible first | exact HB.out | apply below_alloc | apply pw_below_drewN | apply below_drew1) | exact HB.out))) : w.heap.size ≤ gb152)); have n3_ := Aside0.mk ((by rw [hg]; exact (below_size (by repeat (first | (with_reducible first | exact HB.out | apply below_alloc | apply pw_below_drewN | apply below_drew1) | exact HB.out))) : w.heap.size ≤ gb152)); clear HB; have HB := n0_; have BK152 := n1_; have GW152 := n2_; have GE152 := n3_; clear n0_ n1_ n2_ n3_; clear hb hbox hg) | ((with_reducible refine gate_dst (N := 2) rfl ?_); refine box_event ?hg (N := 2) ?hd (cs := #[.bool false, .slice none 0 0, .int .i64 0]) (t := 25) ?hr ?_; (case hd => rfl); (case hg => rfl); (case hr => first | (go_simp; done) | (go_simp; rfl)); intro gb153 hg w5 hbox hb; have n0_ := Aside0.mk (blk_below (g := gb152) (o := .cells #[.bool true, .slice A0_1 l0_1.length c0_1, .int .i64 a0_2] 25 (0, 0)) (S.b BK152.out) hb); have n1_ := Aside0.mk (below_step (by repeat (first | (with_reducible first | exact HB.out | apply below_alloc | apply pw_below_drewN | apply below_drew1 | refine below_set ?_ GE152.out) | exact HB.out)) hb); have n2_ := Aside0.mk (hbox); have n3_ := Aside0.mk ((by rw [hg]; exact (below_size (by repeat (first | (with_reducible first | exact HB.out | apply below_alloc | apply pw_below_drewN | apply below_drew1 | refine below_set ?_ GE152.out) | exact HB.out))) : w.heap.size ≤ gb153)); have n4_ := Aside0.mk ((by rw [hg]; exact (below_size (by repeat (first | (with_reducible first | exact HB.out | apply below_alloc | apply pw_below_drewN | apply below_drew1 | refine below_set ?_ GE152.out) | exact HB.out))) : w.heap.size ≤ gb153)); have n5_ := Aside0.mk ((by rw [hg]; exact Nat.ne_of_lt (blk_lt (g := gb152) (o := .cells #[.bool true, .slice A0_1 l0_1.length c0_1, .int .i64 a0_2] 25 (0, 0)) (S.b BK152.out)) : gb152 ≠ gb153)); have n6_ := Aside0.mk ((by rw [hg]; exact Nat.ne_of_gt (blk_lt (g := gb152) (o := .cells #[.bool true, .slice A0_1 l0_1.length c0_1, .int .i64 a0_2] 25 (0, 0)) (S.b BK152.out)) : gb153 ≠ gb152)); clear BK152; clear HB; have BK152 := n0_; have HB := n1_; have BK153 := n2_; have GW153 := n3_; have GE153 := n4_; have NB152_153 := n5_; have NB153_152 := n6_; clear n0_ n1_ n2_ n3_ n4_ n5_ n6_; clear hb hbox hg))
  have n0_ := Aside0.mk (blk_drew BK152.out)
  have n1_ := Aside0.mk (blk_drew BK153.out)
  have n2_ := Aside0.mk (below_drew1 HB.out)
  clear BK152
  clear BK153
  clear HB
  have BK152 := n0_
  have BK153 := n1_
  have HB := n2_
  clear n0_ n1_ n2_
  refine start_ (n := 16) (S := fun w' => w'.cell? ⟨gb152, 0, none⟩ = some (.bool true) ∧ w'.cell? ⟨gb152, 1, none⟩ = some (.slice A0_1 l0_1.length c0_1) ∧ w'.cell? ⟨gb152, 2, none⟩ = some (.int .i64 a0_2)) (ds := []) #[false, false, false, false, false, false, false, false, false, false, false, false, false, false, false, false] (by kernel_rfl) rfl rfl ⟨(blk_cell BK152.out 0).trans rfl, (blk_cell BK152.out 1).trans rfl, (blk_cell BK152.out 2).trans rfl⟩ (fun hHeld => ?_); refine with_tabW dec_Neg.tab1 dec_Neg.bits1 (fun HT_ HW_ => ?_)
  generalize w5.drew = w6 at BK152 BK153 HB hHeld ⊢
  refine pure_ (i := 0) (N := some 3) (v := ?_) (a' := ?_) #[true, false, false, false, false, false, false, false, false, false, false, false, false, false, false, false] rfl rfl (any_of HT_.out (by kernel_rfl)) (fun _ _ _ h => h) (Or.inl ⟨by rfl, ?_⟩) ?_ ?_
  rotate_left
  ·intro w'
   go_simp
   with_reducible rfl
  rotate_left
  ·simp only [Act.put, List.setIfInBounds_toArray, List.set_cons_zero, List.set_cons_succ, i64_w, i32_w]
   rfl
  refine pure_ (i := 9) (N := some 12) (v := ?_) (a' := ?_) #[true, false, false, false, false, false, false, false, false, true, false, false, false, false, false, false] rfl rfl (any_of HT_.out (by kernel_rfl)) (fun _ _ _ h => h) (Or.inl ⟨by rfl, ?_⟩) ?_ ?_
  rotate_left
  ·intro w'
   go_simp
   with_reducible rfl
  rotate_left
  ·simp only [Act.put, List.setIfInBounds_toArray, List.set_cons_zero, List.set_cons_succ, i64_w, i32_w]
   rfl
  refine pure_ (i := 12) (N := some 15) (v := ?_) (a' := ?_) #[true, false, false, false, false, false, false, false, false, true, false, false, true, false, false, false] rfl rfl (any_of HT_.out (by kernel_rfl)) (fun _ _ _ h => h) (Or.inl ⟨by rfl, ?_⟩) ?_ ?_
  rotate_left
  ·intro w'
   go_simp
   with_reducible rfl
  rotate_left
  ·simp only [Act.put, List.setIfInBounds_toArray, List.set_cons_zero, List.set_cons_succ, i64_w, i32_w]
   rfl
  refine take_ (i := 1) (N := some 4) (v := ?_) (a' := ?_) #[true, true, false, false, false, false, false, false, false, true, false, false, true, false, false, false] rfl rfl (take_ofW HT_.out HW_.out (by kernel_rfl)) (fun _ _ _ h => h) (Or.inl ⟨by rfl, ?_⟩) hHeld ?_ ?_
  rotate_left
  ·rintro w' ⟨s0, s1, s2⟩
   go_simp
   with_reducible rfl
  rotate_left
  ·simp only [Act.put, List.setIfInBounds_toArray, List.set_cons_zero, List.set_cons_succ, i64_w, i32_w]
   rfl
  refine pure_ (i := 2) (N := some 5) (v := ?_) (a' := ?_) #[true, true, true, false, false, false, false, false, false, true, false, false, true, false, false, false] rfl rfl (any_of HT_.out (by kernel_rfl)) (fun _ _ _ h => h) (Or.inl ⟨by rfl, ?_⟩) ?_ ?_
  rotate_left
  ·intro w'
   go_simp
   with_reducible rfl
  rotate_left
  ·simp only [Act.put, List.setIfInBounds_toArray, List.set_cons_zero, List.set_cons_succ, i64_w, i32_w]
   rfl
  refine pure_ (i := 3) (N := some 6) (v := ?_) (a' := ?_) #[true, true, true, true, false, false, false, false, false, true, false, false, true, false, false, false] rfl rfl (any_of HT_.out (by kernel_rfl)) (fun _ _ _ h => h) (Or.inl ⟨by rfl, ?_⟩) ?_ ?_
  rotate_left
  ·intro w'
   go_simp
   with_reducible rfl
  rotate_left
  ·simp only [Act.put, List.setIfInBounds_toArray, List.set_cons_zero, List.set_cons_succ, i64_w, i32_w]
   rfl
  refine pure_ (i := 4) (N := some 7) (v := undef) (a' := ?_) #[true, true, true, true, true, false, false, false, false, true, false, false, true, false, false, false] rfl rfl (any_of HT_.out (by kernel_rfl)) (fun _ _ _ h => h) (Or.inr ⟨by rfl, rfl⟩) ?_ ?_
  rotate_left
  ·simp only [Act.put, List.setIfInBounds_toArray, List.set_cons_zero, List.set_cons_succ, i64_w, i32_w]
   rfl
  refine pure_ (i := 5) (N := some 8) (v := undef) (a' := ?_) #[true, true, true, true, true, true, false, false, false, true, false, false, true, false, false, false] rfl rfl (any_of HT_.out (by kernel_rfl)) (fun _ _ _ h => h) (Or.inr ⟨by rfl, rfl⟩) ?_ ?_
  rotate_left
  ·simp only [Act.put, List.setIfInBounds_toArray, List.set_cons_zero, List.set_cons_succ, i64_w, i32_w]
   rfl
  refine pure_ (i := 6) (N := some 9) (v := undef) (a' := ?_) #[true, true, true, true, true, true, true, false, false, true, false, false, true, false, false, false] rfl rfl (any_of HT_.out (by kernel_rfl)) (fun _ _ _ h => h) (Or.inr ⟨by rfl, rfl⟩) ?_ ?_
  rotate_left
  ·simp only [Act.put, List.setIfInBounds_toArray, List.set_cons_zero, List.set_cons_succ, i64_w, i32_w]
   rfl
  refine pure_ (i := 7) (N := some 10) (v := undef) (a' := ?_) #[true, true, true, true, true, true, true, true, false, true, false, false, true, false, false, false] rfl rfl (any_of HT_.out (by kernel_rfl)) (fun _ _ _ h => h) (Or.inr ⟨by rfl, rfl⟩) ?_ ?_
  rotate_left
  ·simp only [Act.put, List.setIfInBounds_toArray, List.set_cons_zero, List.set_cons_succ, i64_w, i32_w]
   rfl
  refine pure_ (i := 8) (N := some 11) (v := ?_) (a' := ?_) #[true, true, true, true, true, true, true, true, true, true, false, false, true, false, false, false] rfl rfl (any_of HT_.out (by kernel_rfl)) (fun _ _ _ h => h) (Or.inl ⟨by rfl, ?_⟩) ?_ ?_
  rotate_left
  ·intro w'
   go_simp
   with_reducible rfl
  rotate_left
  ·simp only [Act.put, List.setIfInBounds_toArray, List.set_cons_zero, List.set_cons_succ, i64_w, i32_w]
   rfl
  refine take_ (i := 10) (N := some 13) (v := ?_) (a' := ?_) #[true, true, true, true, true, true, true, true, true, true, true, false, true, false, false, false] rfl rfl (take_ofW HT_.out HW_.out (by kernel_rfl)) (fun _ _ _ h => h) (Or.inl ⟨by rfl, ?_⟩) hHeld ?_ ?_
  rotate_left
  ·rintro w' ⟨s0, s1, s2⟩
   go_simp
   with_reducible rfl
  rotate_left
  ·simp only [Act.put, List.setIfInBounds_toArray, List.set_cons_zero, List.set_cons_succ, i64_w, i32_w]
   rfl
  refine take_ (i := 13) (N := some 16) (v := ?_) (a' := ?_) #[true, true, true, true, true, true, true, true, true, true, true, false, true, true, false, false] rfl rfl (take_ofW HT_.out HW_.out (by kernel_rfl)) (fun _ _ _ h => h) (Or.inl ⟨by rfl, ?_⟩) hHeld ?_ ?_
  rotate_left
  ·rintro w' ⟨s0, s1, s2⟩
   go_simp
   with_reducible rfl
  rotate_left
  ·simp only [Act.put, List.setIfInBounds_toArray, List.set_cons_zero, List.set_cons_succ, i64_w, i32_w]
   rfl
  refine one_ (i := 11) (N := some 14) #[true, true, true, true, true, true, true, true, true, true, true, true, true, true, false, false] rfl rfl (one_of HT_.out (by kernel_rfl)) (by decide) (fun K hK => ?_)
  refine goes_ Try.func29 (by kernel_rfl) rfl #[.slice A0_1 l0_1.length c0_1] (by rfl) rfl rfl (by (try simp only [List.map_toArray, List.map_cons, List.map_nil]); first | done | rfl | (simp only [List.length_drop, List.length_take]; rfl)) ?_
  with_reducible refine (G.slices_Clone_byte_byte.calls _ _ l0_1 t154 _ ?side1 ?side2 A3.out).mono ?_
  (case side1 => repeat (first | exact (Kd.C_below HR0_1.out HB.out) | (with_reducible refine Kd.C_alloc ?_ _) | (with_reducible refine Kd.C_drewN ?_ _) | (with_reducible refine Kd.C_drew ?_)))
  (case side2 => exact HC0_1.out)
  rintro e w7 ⟨v155, rfl, ho0, hb⟩
  refine ⟨_, rfl, ?_⟩
  have n0_ := Aside0.mk (Kd.R_lower ho0 (below_size (by repeat (first | (with_reducible first | exact HB.out | apply below_alloc | apply pw_below_drewN | apply below_drew1 | refine below_set ?_ GE152.out | refine below_set ?_ GE153.out) | exact HB.out))))
  have n1_ := Aside0.mk (blk_below (g := gb152) (o := .cells #[.bool true, .slice A0_1 l0_1.length c0_1, .int .i64 a0_2] 25 (0, 0)) (S.b BK152.out) hb)
  have n2_ := Aside0.mk (blk_below (g := gb153) (o := .cells #[.bool false, .slice none 0 0, .int .i64 0] 25 (0, 0)) (S.b BK153.out) hb)
  have n3_ := Aside0.mk (below_step (by repeat (first | (with_reducible first | exact HB.out | apply below_alloc | apply pw_below_drewN | apply below_drew1 | refine below_set ?_ GE152.out | refine below_set ?_ GE153.out) | exact HB.out)) hb)
  clear BK152
  clear BK153
  clear HB
  have HO156 := n0_
  have BK152 := n1_
  have BK153 := n2_
  have HB := n3_
  clear n0_ n1_ n2_ n3_
  (try clear hb)
  (try clear hb2)
  (try clear hk)
  (try clear hi)
  (try clear ho0)
  obtain ⟨Ao8, co8, eo8⟩ := Kd.R_slice HO156.out
  (first | subst eo8 | (injection eo8 with f1_ f2_ f3_; have f4_ := f1_.symm; have f5_ := f3_.symm; clear f1_ f2_ f3_; subst f4_; subst f5_))
  refine hK.out _ _ ⟨(blk_cell BK152.out 0).trans rfl, (blk_cell BK152.out 1).trans rfl, (blk_cell BK152.out 2).trans rfl⟩ (fun hHeld => ?_)
  clear hK K
  refine norm_ (a' := ?_) ?_ ?_
  rotate_left
  ·show Act.put _ (some 14) _ = _
   simp only [Act.put, List.setIfInBounds_toArray, List.set_cons_zero, List.set_cons_succ, i64_w, i32_w]
   rfl
  refine pure_ (i := 14) (N := some 17) (v := ?_) (a' := ?_) #[true, true, true, true, true, true, true, true, true, true, true, true, true, true, true, false] rfl rfl (any_of HT_.out (by kernel_rfl)) (fun _ _ _ h => h) (Or.inl ⟨by rfl, ?_⟩) ?_ ?_
  rotate_left
  ·intro w'
   go_simp
   with_reducible rfl
  rotate_left
  ·simp only [Act.put, List.setIfInBounds_toArray, List.set_cons_zero, List.set_cons_succ, i64_w, i32_w]
   rfl
  refine one_ (i := 15) (N := none) #[true, true, true, true, true, true, true, true, true, true, true, true, true, true, true, true] rfl rfl (one_of HT_.out (by kernel_rfl)) (by decide) (fun K hK => ?_)
  have hs9 : w7.cell? ⟨gb153, 0, none⟩ = some (.bool false) := (blk_cell BK153.out 0).trans rfl
  have hfs9 := blk_frozen BK153.out 0
  have hns9_0 := NB152_153.out
  have hms9_0 := NB153_152.out
  have hs10 : w7.cell? ⟨gb153, 1, none⟩ = some (.slice none 0 0) := (blk_cell BK153.out 1).trans rfl
  have hfs10 := blk_frozen BK153.out 1
  have hns10_0 := NB152_153.out
  have hms10_0 := NB153_152.out
  have hs11 : w7.cell? ⟨gb153, 2, none⟩ = some (.int .i64 0) := (blk_cell BK153.out 2).trans rfl
  have hfs11 := blk_frozen BK153.out 2
  have hns11_0 := NB152_153.out
  have hms11_0 := NB153_152.out
  refine skip_ (w1 := ?_) (by rfl) rfl ?_ ?_
  rotate_left
  ·go_simp
   rfl
  refine hK.out _ _ ⟨((cell_far (p := ⟨gb153, _, none⟩) NB152_153.out _).trans (((cell_far (p := ⟨gb153, _, none⟩) NB152_153.out _).trans (((cell_far (p := ⟨gb153, _, none⟩) NB152_153.out _).trans (hHeld.1)))))), ((cell_far (p := ⟨gb153, _, none⟩) NB152_153.out _).trans (((cell_far (p := ⟨gb153, _, none⟩) NB152_153.out _).trans (((cell_far (p := ⟨gb153, _, none⟩) NB152_153.out _).trans (hHeld.2.1)))))), ((cell_far (p := ⟨gb153, _, none⟩) NB152_153.out _).trans (((cell_far (p := ⟨gb153, _, none⟩) NB152_153.out _).trans (((cell_far (p := ⟨gb153, _, none⟩) NB152_153.out _).trans (hHeld.2.2))))))⟩ (fun hHeld => ?_)
  clear hK K
  refine done_ (done_of HT_.out (by kernel_rfl)) ?_
  try go_wp2
  refine bodyPost_ret (results_cell_row rfl _ _ gb153 25 #[.bool false, .slice Ao8 t154.length co8, .int .i64 a0_2] (0, 0) _ rfl (by (with_reducible repeat (first | refine blk_drewN ?_ _ | refine blk_drew ?_ | refine blk_alloc ?_ _)); refine blk_put (cs := #[.bool false, .slice Ao8 t154.length co8, .int .i64 0]) ?_ 2 _ rfl; (with_reducible repeat (first | refine blk_drewN ?_ _ | refine blk_drew ?_ | refine blk_alloc ?_ _)); refine blk_put (cs := #[.bool false, .slice none 0 0, .int .i64 0]) ?_ 1 _ rfl; (with_reducible repeat (first | refine blk_drewN ?_ _ | refine blk_drew ?_ | refine blk_alloc ?_ _)); refine blk_put (cs := #[.bool false, .slice none 0 0, .int .i64 0]) ?_ 0 _ rfl; (with_reducible repeat (first | refine blk_drewN ?_ _ | refine blk_drew ?_ | refine blk_alloc ?_ _)); exact BK153.out) Try.underlying25 rfl (by kernel_rfl)) rfl ?_
  exact ⟨_, by first | rfl | (simp [errW_none, errW_some] <;> rfl) | (simp [*, errW_none, errW_some] <;> rfl), by (with_reducible repeat (first | apply Kd.R_alloc | apply Kd.R_drewN | apply Kd.R_drew)); exact Kd.R_mono (Kd.R_far (p := ⟨gb153, 2, none⟩) (Kd.R_far (p := ⟨gb153, 1, none⟩) (Kd.R_far (p := ⟨gb153, 0, none⟩) (Kd.R_types HO156.out BK153.out (by decide)) (fun _ hk => hk.2) (.bool false)) (fun _ hk => hk.2) (.slice Ao8 t154.length co8)) (fun _ hk => hk.2) (.int .i64 a0_2)) (fun _ hk => trivial), by repeat (first | (with_reducible first | exact HB.out | apply below_alloc | apply pw_below_drewN | apply below_drew1 | refine below_set ?_ GE152.out | refine below_set ?_ GE153.out) | exact HB.out)⟩
 ·replace c2 := Bool.eq_false_iff.mpr c2
  subst c2
  have H1 : ((G.dec_zero.f l0_1).bind fun t157 => ((G.slices_Clone_byte_byte.f l0_1).bind fun t158 => (some (!t157, t158, a0_2)))) = some (r1, r2, r3) := by rw [if_neg (show ¬ (false = true) by decide)] at H; exact H
  clear H
  have H := H1
  clear H1
  replace H := Option.bind_eq_some_iff.mp H
  obtain ⟨t157, A120, H⟩ := H
  replace H : ((G.slices_Clone_byte_byte.f l0_1).bind fun t158 => (some (!t157, t158, a0_2))) = some (r1, r2, r3) := H
  have A12 := Aside0.mk A120
  clear A120
  replace H := Option.bind_eq_some_iff.mp H
  obtain ⟨t158, A130, H⟩ := H
  replace H : (some (!t157, t158, a0_2)) = some (r1, r2, r3) := H
  have A13 := Aside0.mk A130
  clear A130
  simp only [Option.some.injEq, Prod.mk.injEq] at H
  obtain ⟨rfl, rfl, rfl⟩ := H
  go_enter Try.func13, Try.ntmps13
  try go_wp2_with (first | ((with_reducible refine gate_dst (N := 1) rfl ?_); refine box_event ?hg (N := 1) ?hd (cs := #[.bool false, .slice A0_1 l0_1.length c0_1, .int .i64 a0_2]) (t := 25) ?hr ?_; (case hd => rfl); (case hg => rfl); (case hr => first | (go_simp; done) | (go_simp; rfl)); intro gb152 hg w14 hbox hb; have n0_ := Aside0.mk (below_step (by repeat (first | (with_reducible first | exact HB.out | apply below_alloc | apply pw_below_drewN | apply below_drew1) | exact HB.out)) hb); have n1_ := Aside0.mk (hbox); have n2_ := Aside0.mk ((by rw [hg]; exact (below_size (by repeat (first | (with_reducible first | exact HB.out | apply below_alloc | apply pw_below_drewN | apply below_drew1) | exact HB.out))) : w.heap.size ≤ gb152)); have n3_ := Aside0.mk ((by rw [hg]; exact (below_size (by repeat (first | (with_reducible first | exact HB.out | apply below_alloc | apply pw_below_drewN | apply below_drew1) | exact HB.out))) : w.heap.size ≤ gb152)); clear HB; have HB := n0_; have BK152 := n1_; have GW152 := n2_; have GE152 := n3_; clear n0_ n1_ n2_ n3_; clear hb hbox hg) | ((with_reducible refine gate_dst (N := 2) rfl ?_); refine box_event ?hg (N := 2) ?hd (cs := #[.bool false, .slice none 0 0, .int .i64 0]) (t := 25) ?hr ?_; (case hd => rfl); (case hg => rfl); (case hr => first | (go_simp; done) | (go_simp; rfl)); intro gb153 hg w15 hbox hb; have n0_ := Aside0.mk (blk_below (g := gb152) (o := .cells #[.bool false, .slice A0_1 l0_1.length c0_1, .int .i64 a0_2] 25 (0, 0)) (S.b BK152.out) hb); have n1_ := Aside0.mk (below_step (by repeat (first | (with_reducible first | exact HB.out | apply below_alloc | apply pw_below_drewN | apply below_drew1 | refine below_set ?_ GE152.out) | exact HB.out)) hb); have n2_ := Aside0.mk (hbox); have n3_ := Aside0.mk ((by rw [hg]; exact (below_size (by repeat (first | (with_reducible first | exact HB.out | apply below_alloc | apply pw_below_drewN | apply below_drew1 | refine below_set ?_ GE152.out) | exact HB.out))) : w.heap.size ≤ gb153)); have n4_ := Aside0.mk ((by rw [hg]; exact (below_size (by repeat (first | (with_reducible first | exact HB.out | apply below_alloc | apply pw_below_drewN | apply below_drew1 | refine below_set ?_ GE152.out) | exact HB.out))) : w.heap.size ≤ gb153)); have n5_ := Aside0.mk ((by rw [hg]; exact Nat.ne_of_lt (blk_lt (g := gb152) (o := .cells #[.bool false, .slice A0_1 l0_1.length c0_1, .int .i64 a0_2] 25 (0, 0)) (S.b BK152.out)) : gb152 ≠ gb153)); have n6_ := Aside0.mk ((by rw [hg]; exact Nat.ne_of_gt (blk_lt (g := gb152) (o := .cells #[.bool false, .slice A0_1 l0_1.length c0_1, .int .i64 a0_2] 25 (0, 0)) (S.b BK152.out)) : gb153 ≠ gb152)); clear BK152; clear HB; have BK152 := n0_; have HB := n1_; have BK153 := n2_; have GW153 := n3_; have GE153 := n4_; have NB152_153 := n5_; have NB153_152 := n6_; clear n0_ n1_ n2_ n3_ n4_ n5_ n6_; clear hb hbox hg))
  have n0_ := Aside0.mk (blk_drew BK152.out)
  have n1_ := Aside0.mk (blk_drew BK153.out)
  have n2_ := Aside0.mk (below_drew1 HB.out)
  clear BK152
  clear BK153
  clear HB
  have BK152 := n0_
  have BK153 := n1_
  have HB := n2_
  clear n0_ n1_ n2_
  refine start_ (n := 16) (S := fun w' => w'.cell? ⟨gb152, 0, none⟩ = some (.bool false) ∧ w'.cell? ⟨gb152, 1, none⟩ = some (.slice A0_1 l0_1.length c0_1) ∧ w'.cell? ⟨gb152, 2, none⟩ = some (.int .i64 a0_2)) (ds := []) #[false, false, false, false, false, false, false, false, false, false, false, false, false, false, false, false] (by kernel_rfl) rfl rfl ⟨(blk_cell BK152.out 0).trans rfl, (blk_cell BK152.out 1).trans rfl, (blk_cell BK152.out 2).trans rfl⟩ (fun hHeld => ?_); refine with_tabW dec_Neg.tab1 dec_Neg.bits1 (fun HT_ HW_ => ?_)
  generalize w15.drew = w16 at BK152 BK153 HB hHeld ⊢
  refine pure_ (i := 0) (N := some 3) (v := ?_) (a' := ?_) #[true, false, false, false, false, false, false, false, false, false, false, false, false, false, false, false] rfl rfl (any_of HT_.out (by kernel_rfl)) (fun _ _ _ h => h) (Or.inl ⟨by rfl, ?_⟩) ?_ ?_
  rotate_left
  ·intro w'
   go_simp
   with_reducible rfl
  rotate_left
  ·simp only [Act.put, List.setIfInBounds_toArray, List.set_cons_zero, List.set_cons_succ, i64_w, i32_w]
   rfl
  refine pure_ (i := 9) (N := some 12) (v := ?_) (a' := ?_) #[true, false, false, false, false, false, false, false, false, true, false, false, false, false, false, false] rfl rfl (any_of HT_.out (by kernel_rfl)) (fun _ _ _ h => h) (Or.inl ⟨by rfl, ?_⟩) ?_ ?_
  rotate_left
  ·intro w'
   go_simp
   with_reducible rfl
  rotate_left
  ·simp only [Act.put, List.setIfInBounds_toArray, List.set_cons_zero, List.set_cons_succ, i64_w, i32_w]
   rfl
  refine pure_ (i := 12) (N := some 15) (v := ?_) (a' := ?_) #[true, false, false, false, false, false, false, false, false, true, false, false, true, false, false, false] rfl rfl (any_of HT_.out (by kernel_rfl)) (fun _ _ _ h => h) (Or.inl ⟨by rfl, ?_⟩) ?_ ?_
  rotate_left
  ·intro w'
   go_simp
   with_reducible rfl
  rotate_left
  ·simp only [Act.put, List.setIfInBounds_toArray, List.set_cons_zero, List.set_cons_succ, i64_w, i32_w]
   rfl
  refine take_ (i := 1) (N := some 4) (v := ?_) (a' := ?_) #[true, true, false, false, false, false, false, false, false, true, false, false, true, false, false, false] rfl rfl (take_ofW HT_.out HW_.out (by kernel_rfl)) (fun _ _ _ h => h) (Or.inl ⟨by rfl, ?_⟩) hHeld ?_ ?_
  rotate_left
  ·rintro w' ⟨s0, s1, s2⟩
   go_simp
   with_reducible rfl
  rotate_left
  ·simp only [Act.put, List.setIfInBounds_toArray, List.set_cons_zero, List.set_cons_succ, i64_w, i32_w]
   rfl
  refine pure_ (i := 2) (N := some 5) (v := ?_) (a' := ?_) #[true, true, true, false, false, false, false, false, false, true, false, false, true, false, false, false] rfl rfl (any_of HT_.out (by kernel_rfl)) (fun _ _ _ h => h) (Or.inl ⟨by rfl, ?_⟩) ?_ ?_
  rotate_left
  ·intro w'
   go_simp
   with_reducible rfl
  rotate_left
  ·simp only [Act.put, List.setIfInBounds_toArray, List.set_cons_zero, List.set_cons_succ, i64_w, i32_w]
   rfl
  refine pure_ (i := 3) (N := some 6) (v := ?_) (a' := ?_) #[true, true, true, true, false, false, false, false, false, true, false, false, true, false, false, false] rfl rfl (any_of HT_.out (by kernel_rfl)) (fun _ _ _ h => h) (Or.inl ⟨by rfl, ?_⟩) ?_ ?_
  rotate_left
  ·intro w'
   go_simp
   with_reducible rfl
  rotate_left
  ·simp only [Act.put, List.setIfInBounds_toArray, List.set_cons_zero, List.set_cons_succ, i64_w, i32_w]
   rfl
  refine pure_ (i := 4) (N := some 7) (v := ?_) (a' := ?_) #[true, true, true, true, true, false, false, false, false, true, false, false, true, false, false, false] rfl rfl (any_of HT_.out (by kernel_rfl)) (fun _ _ _ h => h) (Or.inl ⟨by rfl, ?_⟩) ?_ ?_
  rotate_left
  ·intro w'
   go_simp
   with_reducible rfl
  rotate_left
  ·simp only [Act.put, List.setIfInBounds_toArray, List.set_cons_zero, List.set_cons_succ, i64_w, i32_w]
   rfl
  refine take_ (i := 5) (N := some 8) (v := ?_) (a' := ?_) #[true, true, true, true, true, true, false, false, false, true, false, false, true, false, false, false] rfl rfl (take_ofW HT_.out HW_.out (by kernel_rfl)) (fun _ _ _ h => h) (Or.inl ⟨by rfl, ?_⟩) hHeld ?_ ?_
  rotate_left
  ·rintro w' ⟨s0, s1, s2⟩
   go_simp
   with_reducible rfl
  rotate_left
  ·simp only [Act.put, List.setIfInBounds_toArray, List.set_cons_zero, List.set_cons_succ, i64_w, i32_w]
   rfl
  refine take_ (i := 10) (N := some 13) (v := ?_) (a' := ?_) #[true, true, true, true, true, true, false, false, false, true, true, false, true, false, false, false] rfl rfl (take_ofW HT_.out HW_.out (by kernel_rfl)) (fun _ _ _ h => h) (Or.inl ⟨by rfl, ?_⟩) hHeld ?_ ?_
  rotate_left
  ·rintro w' ⟨s0, s1, s2⟩
   go_simp
   with_reducible rfl
  rotate_left
  ·simp only [Act.put, List.setIfInBounds_toArray, List.set_cons_zero, List.set_cons_succ, i64_w, i32_w]
   rfl
  refine take_ (i := 13) (N := some 16) (v := ?_) (a' := ?_) #[true, true, true, true, true, true, false, false, false, true, true, false, true, true, false, false] rfl rfl (take_ofW HT_.out HW_.out (by kernel_rfl)) (fun _ _ _ h => h) (Or.inl ⟨by rfl, ?_⟩) hHeld ?_ ?_
  rotate_left
  ·rintro w' ⟨s0, s1, s2⟩
   go_simp
   with_reducible rfl
  rotate_left
  ·simp only [Act.put, List.setIfInBounds_toArray, List.set_cons_zero, List.set_cons_succ, i64_w, i32_w]
   rfl
  refine one_ (i := 6) (N := some 9) #[true, true, true, true, true, true, true, false, false, true, true, false, true, true, false, false] rfl rfl (one_of HT_.out (by kernel_rfl)) (by decide) (fun K hK => ?_)
  refine goes_ Try.func28 (by kernel_rfl) rfl #[.slice A0_1 l0_1.length c0_1] (by rfl) rfl rfl (by (try simp only [List.map_toArray, List.map_cons, List.map_nil]); first | done | rfl | (simp only [List.length_drop, List.length_take]; rfl)) ?_
  with_reducible refine (G.dec_zero.calls _ _ l0_1 t157 _ ?side1 ?side2 A12.out).mono ?_
  (case side1 => repeat (first | exact (Kd.C_below HR0_1.out HB.out) | (with_reducible refine Kd.C_alloc ?_ _) | (with_reducible refine Kd.C_drewN ?_ _) | (with_reducible refine Kd.C_drew ?_)))
  (case side2 => exact HC0_1.out)
  rintro e w' ⟨rfl, ⟨nd, rfl⟩⟩
  refine ⟨_, rfl, ?_⟩
  refine hK.out _ _ ⟨(blk_cell BK152.out 0).trans rfl, (blk_cell BK152.out 1).trans rfl, (blk_cell BK152.out 2).trans rfl⟩ (fun hHeld => ?_)
  clear hK K
  refine norm_ (a' := ?_) ?_ ?_
  rotate_left
  ·show Act.put _ (some 9) _ = _
   simp only [Act.put, List.setIfInBounds_toArray, List.set_cons_zero, List.set_cons_succ, i64_w, i32_w]
   rfl
  refine pure_ (i := 7) (N := some 10) (v := ?_) (a' := ?_) #[true, true, true, true, true, true, true, true, false, true, true, false, true, true, false, false] rfl rfl (any_of HT_.out (by kernel_rfl)) (fun _ _ _ h => h) (Or.inl ⟨by rfl, ?_⟩) ?_ ?_
  rotate_left
  ·intro w'
   go_simp
   with_reducible rfl
  rotate_left
  ·simp only [Act.put, List.setIfInBounds_toArray, List.set_cons_zero, List.set_cons_succ, i64_w, i32_w]
   rfl
  refine pure_ (i := 8) (N := some 11) (v := ?_) (a' := ?_) #[true, true, true, true, true, true, true, true, true, true, true, false, true, true, false, false] rfl rfl (any_of HT_.out (by kernel_rfl)) (fun _ _ _ h => h) (Or.inl ⟨by rfl, ?_⟩) ?_ ?_
  rotate_left
  ·intro w'
   go_simp
   with_reducible rfl
  rotate_left
  ·simp only [Act.put, List.setIfInBounds_toArray, List.set_cons_zero, List.set_cons_succ, i64_w, i32_w]
   rfl
  refine one_ (i := 11) (N := some 14) #[true, true, true, true, true, true, true, true, true, true, true, true, true, true, false, false] rfl rfl (one_of HT_.out (by kernel_rfl)) (by decide) (fun K hK => ?_)
  refine goes_ Try.func29 (by kernel_rfl) rfl #[.slice A0_1 l0_1.length c0_1] (by rfl) rfl rfl (by (try simp only [List.map_toArray, List.map_cons, List.map_nil]); first | done | rfl | (simp only [List.length_drop, List.length_take]; rfl)) ?_
  with_reducible refine (G.slices_Clone_byte_byte.calls _ _ l0_1 t158 _ ?side1 ?side2 A13.out).mono ?_
  (case side1 => repeat (first | exact (Kd.C_below HR0_1.out (by repeat (first | (with_reducible first | exact HB.out | apply below_alloc | apply pw_below_drewN | apply below_drew1 | refine below_set ?_ GE152.out | refine below_set ?_ GE153.out) | exact HB.out))) | (with_reducible refine Kd.C_alloc ?_ _) | (with_reducible refine Kd.C_drewN ?_ _) | (with_reducible refine Kd.C_drew ?_)))
  (case side2 => exact HC0_1.out)
  rintro e w17 ⟨v159, rfl, ho0, hb⟩
  refine ⟨_, rfl, ?_⟩
  have n0_ := Aside0.mk (Kd.R_lower ho0 (below_size (by repeat (first | (with_reducible first | exact HB.out | apply below_alloc | apply pw_below_drewN | apply below_drew1 | refine below_set ?_ GE152.out | refine below_set ?_ GE153.out) | exact HB.out))))
  have n1_ := Aside0.mk (blk_below (g := gb152) (o := .cells #[.bool false, .slice A0_1 l0_1.length c0_1, .int .i64 a0_2] 25 (0, 0)) (S.b BK152.out) hb)
  have n2_ := Aside0.mk (blk_below (g := gb153) (o := .cells #[.bool false, .slice none 0 0, .int .i64 0] 25 (0, 0)) (S.b BK153.out) hb)
  have n3_ := Aside0.mk (below_step (by repeat (first | (with_reducible first | exact HB.out | apply below_alloc | apply pw_below_drewN | apply below_drew1 | refine below_set ?_ GE152.out | refine below_set ?_ GE153.out) | exact HB.out)) hb)
  clear BK152
  clear BK153
  clear HB
  have HO160 := n0_
  have BK152 := n1_
  have BK153 := n2_
  have HB := n3_
  clear n0_ n1_ n2_ n3_
  (try clear hb)
  (try clear hb2)
  (try clear hk)
  (try clear hi)
  (try clear ho0)
  obtain ⟨Ao18, co18, eo18⟩ := Kd.R_slice HO160.out
  (first | subst eo18 | (injection eo18 with f1_ f2_ f3_; have f4_ := f1_.symm; have f5_ := f3_.symm; clear f1_ f2_ f3_; subst f4_; subst f5_))
  refine hK.out _ _ ⟨(blk_cell BK152.out 0).trans rfl, (blk_cell BK152.out 1).trans rfl, (blk_cell BK152.out 2).trans rfl⟩ (fun hHeld => ?_)
  clear hK K
  refine norm_ (a' := ?_) ?_ ?_
  rotate_left
  ·show Act.put _ (some 14) _ = _
   simp only [Act.put, List.setIfInBounds_toArray, List.set_cons_zero, List.set_cons_succ, i64_w, i32_w]
   rfl
  refine pure_ (i := 14) (N := some 17) (v := ?_) (a' := ?_) #[true, true, true, true, true, true, true, true, true, true, true, true, true, true, true, false] rfl rfl (any_of HT_.out (by kernel_rfl)) (fun _ _ _ h => h) (Or.inl ⟨by rfl, ?_⟩) ?_ ?_
  rotate_left
  ·intro w'
   go_simp
   with_reducible rfl
  rotate_left
  ·simp only [Act.put, List.setIfInBounds_toArray, List.set_cons_zero, List.set_cons_succ, i64_w, i32_w]
   rfl
  refine one_ (i := 15) (N := none) #[true, true, true, true, true, true, true, true, true, true, true, true, true, true, true, true] rfl rfl (one_of HT_.out (by kernel_rfl)) (by decide) (fun K hK => ?_)
  have hs19 : w17.cell? ⟨gb153, 0, none⟩ = some (.bool false) := (blk_cell BK153.out 0).trans rfl
  have hfs19 := blk_frozen BK153.out 0
  have hns19_0 := NB152_153.out
  have hms19_0 := NB153_152.out
  have hs20 : w17.cell? ⟨gb153, 1, none⟩ = some (.slice none 0 0) := (blk_cell BK153.out 1).trans rfl
  have hfs20 := blk_frozen BK153.out 1
  have hns20_0 := NB152_153.out
  have hms20_0 := NB153_152.out
  have hs21 : w17.cell? ⟨gb153, 2, none⟩ = some (.int .i64 0) := (blk_cell BK153.out 2).trans rfl
  have hfs21 := blk_frozen BK153.out 2
  have hns21_0 := NB152_153.out
  have hms21_0 := NB153_152.out
  refine skip_ (w1 := ?_) (by rfl) rfl ?_ ?_
  rotate_left
  ·go_simp
   rfl
  refine hK.out _ _ ⟨((cell_far (p := ⟨gb153, _, none⟩) NB152_153.out _).trans (((cell_far (p := ⟨gb153, _, none⟩) NB152_153.out _).trans (((cell_far (p := ⟨gb153, _, none⟩) NB152_153.out _).trans (hHeld.1)))))), ((cell_far (p := ⟨gb153, _, none⟩) NB152_153.out _).trans (((cell_far (p := ⟨gb153, _, none⟩) NB152_153.out _).trans (((cell_far (p := ⟨gb153, _, none⟩) NB152_153.out _).trans (hHeld.2.1)))))), ((cell_far (p := ⟨gb153, _, none⟩) NB152_153.out _).trans (((cell_far (p := ⟨gb153, _, none⟩) NB152_153.out _).trans (((cell_far (p := ⟨gb153, _, none⟩) NB152_153.out _).trans (hHeld.2.2))))))⟩ (fun hHeld => ?_)
  clear hK K
  refine done_ (done_of HT_.out (by kernel_rfl)) ?_
  try go_wp2
  refine bodyPost_ret (results_cell_row rfl _ _ gb153 25 #[.bool (!t157), .slice Ao18 t158.length co18, .int .i64 a0_2] (0, 0) _ rfl (by (with_reducible repeat (first | refine blk_drewN ?_ _ | refine blk_drew ?_ | refine blk_alloc ?_ _)); refine blk_put (cs := #[.bool (!t157), .slice Ao18 t158.length co18, .int .i64 0]) ?_ 2 _ rfl; (with_reducible repeat (first | refine blk_drewN ?_ _ | refine blk_drew ?_ | refine blk_alloc ?_ _)); refine blk_put (cs := #[.bool (!t157), .slice none 0 0, .int .i64 0]) ?_ 1 _ rfl; (with_reducible repeat (first | refine blk_drewN ?_ _ | refine blk_drew ?_ | refine blk_alloc ?_ _)); refine blk_put (cs := #[.bool false, .slice none 0 0, .int .i64 0]) ?_ 0 _ rfl; (with_reducible repeat (first | refine blk_drewN ?_ _ | refine blk_drew ?_ | refine blk_alloc ?_ _)); exact BK153.out) Try.underlying25 rfl (by kernel_rfl)) rfl ?_
  exact ⟨_, by first | rfl | (simp [errW_none, errW_some] <;> rfl) | (simp [*, errW_none, errW_some] <;> rfl), by (with_reducible repeat (first | apply Kd.R_alloc | apply Kd.R_drewN | apply Kd.R_drew)); exact Kd.R_mono (Kd.R_far (p := ⟨gb153, 2, none⟩) (Kd.R_far (p := ⟨gb153, 1, none⟩) (Kd.R_far (p := ⟨gb153, 0, none⟩) (Kd.R_types HO160.out BK153.out (by decide)) (fun _ hk => hk.2) (.bool (!t157))) (fun _ hk => hk.2) (.slice Ao18 t158.length co18)) (fun _ hk => hk.2) (.int .i64 a0_2)) (fun _ hk => trivial), by repeat (first | (with_reducible first | exact HB.out | apply below_alloc | apply pw_below_drewN | apply below_drew1 | refine below_set ?_ GE152.out | refine below_set ?_ GE153.out) | exact HB.out)⟩

/-! ### dec_Dec_Whole: function 19 -/
def dec_Dec_Whole.f (a0_0 : Bool) (l0_1 : List Int) (a0_2 : Int) : Option (Bool) := some (a0_2 == 0)
set_option maxHeartbeats 8000000 in
set_option maxRecDepth 100000 in
theorem dec_Dec_Whole.calls (a0_0 : Bool) (A0_1 : Option Addr) (c0_1 : Nat) (l0_1 : List Int) (a0_2 : Int) (r : Bool) (w : World) (hr0_1 : Kd.C (Kd.int .u8) w A0_1 l0_1.length l0_1) (hc0_1 : l0_1.length ≤ c0_1) (h : dec_Dec_Whole.f a0_0 l0_1 a0_2 = some r) :
  Calls Try.prog 19 #[.agg #[.bool a0_0, .slice A0_1 l0_1.length c0_1, .int .i64 a0_2]] w fun e w' => e = .returned (.bool r) ∧ Below w.heap.size w w' := by
 have hu25 := Try.underlying25
 have HR0_1 := Aside0.mk hr0_1
 have HC0_1 := Aside0.mk hc0_1
 clear hr0_1 hc0_1
 have HB := Aside0.mk (Below.refl w.heap.size w)
 have H : (some (a0_2 == 0)) = some r := h
 clear h
 obtain rfl := Option.some.inj H
 go_enter Try.func19, Try.ntmps19
 go_wp2_with (first | ((with_reducible refine gate_dst (N := 1) rfl ?_); refine box_event ?hg (N := 1) ?hd (cs := #[.bool a0_0, .slice A0_1 l0_1.length c0_1, .int .i64 a0_2]) (t := 25) ?hr ?_; (case hd => rfl); (case hg => rfl); (case hr => first | (go_simp; done) | (go_simp; rfl)); intro gb161 hg w2 hbox hb; have n0_ := Aside0.mk (below_step (by repeat (first | (with_reducible first | exact HB.out | apply below_alloc | apply pw_below_drewN | apply below_drew1) | exact HB.out)) hb); have n1_ := Aside0.mk (hbox); have n2_ := Aside0.mk ((by rw [hg]; exact (below_size (by repeat (first | (with_reducible first | exact HB.out | apply below_alloc | apply pw_below_drewN | apply below_drew1) | exact HB.out))) : w.heap.size ≤ gb161)); have n3_ := Aside0.mk ((by rw [hg]; exact (below_size (by repeat (first | (with_reducible first | exact HB.out | apply below_alloc | apply pw_below_drewN | apply below_drew1) | exact HB.out))) : w.heap.size ≤ gb161)); clear HB; have HB := n0_; have BK161 := n1_; have GW161 := n2_; have GE161 := n3_; clear n0_ n1_ n2_ n3_; clear hb hbox hg; have hcz3_0 : w2.cell? ⟨gb161, 0, none⟩ = some (.bool a0_0) := (blk_cell BK161.out 0).trans rfl; have hcz3_1 : w2.cell? ⟨gb161, 1, none⟩ = some (.slice A0_1 l0_1.length c0_1) := (blk_cell BK161.out 1).trans rfl; have hcz3_2 : w2.cell? ⟨gb161, 2, none⟩ = some (.int .i64 a0_2) := (blk_cell BK161.out 2).trans rfl; have hfz3_0 := blk_frozen BK161.out 0; have hfz3_1 := blk_frozen BK161.out 1; have hfz3_2 := blk_frozen BK161.out 2))
 go_ret
 exact ⟨by first | rfl | (simp [errW_none, errW_some] <;> rfl) | (simp [*, errW_none, errW_some] <;> rfl), by repeat (first | (with_reducible first | exact HB.out | apply below_alloc | apply pw_below_drewN | apply below_drew1 | refine below_set ?_ GE161.out) | exact HB.out)⟩

/-! ### rubriclaw5_known: function 6 -/
def rubriclaw5_known.f (k : Nat)  : Option (Bool) := (dec_Parse.f k (⟨#[45, 48, 48, 55, 46, 53, 48]⟩ : ByteArray)).bind fun bt162 => ((dec_Parse.f k (⟨#[43, 46, 53]⟩ : ByteArray)).bind fun bt169 => ((dec_Add.f k bt162.1 bt162.2.1 bt162.2.2.1 bt169.1 bt169.2.1 bt169.2.2.1).bind fun bt176 => (if (wrap64 ((wrap64 (bt162.2.2.2 + bt169.2.2.2)) + bt176.2.2.2)) = 0 then ((G.dec_Dec_Text.f bt162.1 bt162.2.1 bt162.2.2.1).bind fun t183 => (if t183.toList = ([45, 55, 46, 53] : List UInt8) then ((G.dec_Dec_Text.f bt169.1 bt169.2.1 bt169.2.2.1).bind fun t184 => (if t184.toList = ([48, 46, 53] : List UInt8) then ((G.dec_Dec_Text.f bt176.1 bt176.2.1 bt176.2.2.1).bind fun t185 => (if t185.toList = ([45, 55] : List UInt8) then ((dec_Dec_Whole.f bt176.1 bt176.2.1 bt176.2.2.1).bind fun t186 => (if t186 = true then ((dec_Cmp.f k bt162.1 bt162.2.1 bt162.2.2.1 bt169.1 bt169.2.1 bt169.2.2.1).bind fun t187 => (if t187 = (-1) then ((dec_Dec_Total.f bt169.1 bt169.2.1 bt169.2.2.1).bind fun t188 => (if t188 = 1 then ((dec_Dec_Fraction.f bt169.1 bt169.2.1 bt169.2.2.1).bind fun t189 => (if t189 = 1 then ((dec_Neg.f bt162.1 bt162.2.1 bt162.2.2.1).bind fun bt190 => ((G.dec_Dec_Text.f bt190.1 bt190.2.1 bt190.2.2).bind fun t195 => (some (t195.toList == ([55, 46, 53] : List UInt8))))) else (some false))) else (some false))) else (some false))) else (some false))) else (some false))) else (some false))) else (some false))) else (some false))))
theorem rubriclaw5_known.mono : ∀ k, LeO (rubriclaw5_known.f k ) (rubriclaw5_known.f (k + 1) ) := by
 intro  k
 unfold rubriclaw5_known.f
 repeat' first
   | (with_reducible exact dec_Add.mono _ _ _ _ _ _ _)
   | (with_reducible exact dec_Cmp.mono _ _ _ _ _ _ _)
   | (with_reducible exact dec_Parse.mono _ _)
   | (with_reducible exact LeO.refl _)
   | (with_reducible exact LeO.none _)
   | (with_reducible refine LeO.ite ?_ ?_)
   | (with_reducible refine LeO.bind ?_ (fun _ => ?_))
   | exact dec_Add.mono _ _ _ _ _ _ _
   | exact dec_Cmp.mono _ _ _ _ _ _ _
   | exact dec_Parse.mono _ _
   | exact LeO.none _
   | refine LeO.ite ?_ ?_
   | refine LeO.bind ?_ (fun _ => ?_)
set_option maxHeartbeats 8000000 in
set_option maxRecDepth 100000 in
theorem rubriclaw5_known.calls (k : Nat)  (r : Bool) (w : World) (h : rubriclaw5_known.f k  = some r) (hrt : r = true) :
  Calls Try.prog 6 #[] w fun e w' => e = .returned (.bool r) ∧ Below w.heap.size w w' := by
 have hu25 := Try.underlying25
 have HB := Aside0.mk (Below.refl w.heap.size w)
 have HRT := Aside0.mk hrt
 clear hrt
 have H : ((dec_Parse.f k (⟨#[45, 48, 48, 55, 46, 53, 48]⟩ : ByteArray)).bind fun bt162 => ((dec_Parse.f k (⟨#[43, 46, 53]⟩ : ByteArray)).bind fun bt169 => ((dec_Add.f k bt162.1 bt162.2.1 bt162.2.2.1 bt169.1 bt169.2.1 bt169.2.2.1).bind fun bt176 => (if (wrap64 ((wrap64 (bt162.2.2.2 + bt169.2.2.2)) + bt176.2.2.2)) = 0 then ((G.dec_Dec_Text.f bt162.1 bt162.2.1 bt162.2.2.1).bind fun t183 => (if t183.toList = ([45, 55, 46, 53] : List UInt8) then ((G.dec_Dec_Text.f bt169.1 bt169.2.1 bt169.2.2.1).bind fun t184 => (if t184.toList = ([48, 46, 53] : List UInt8) then ((G.dec_Dec_Text.f bt176.1 bt176.2.1 bt176.2.2.1).bind fun t185 => (if t185.toList = ([45, 55] : List UInt8) then ((dec_Dec_Whole.f bt176.1 bt176.2.1 bt176.2.2.1).bind fun t186 => (if t186 = true then ((dec_Cmp.f k bt162.1 bt162.2.1 bt162.2.2.1 bt169.1 bt169.2.1 bt169.2.2.1).bind fun t187 => (if t187 = (-1) then ((dec_Dec_Total.f bt169.1 bt169.2.1 bt169.2.2.1).bind fun t188 => (if t188 = 1 then ((dec_Dec_Fraction.f bt169.1 bt169.2.1 bt169.2.2.1).bind fun t189 => (if t189 = 1 then ((dec_Neg.f bt162.1 bt162.2.1 bt162.2.2.1).bind fun bt190 => ((G.dec_Dec_Text.f bt190.1 bt190.2.1 bt190.2.2).bind fun t195 => (some (t195.toList == ([55, 46, 53] : List UInt8))))) else (some false))) else (some false))) else (some false))) else (some false))) else (some false))) else (some false))) else (some false))) else (some false))))) = some r := h
 clear h
 replace H := Option.bind_eq_some_iff.mp H
 obtain ⟨⟨t162, t163, t166, t167⟩, A10, H⟩ := H
 replace H : ((dec_Parse.f k (⟨#[43, 46, 53]⟩ : ByteArray)).bind fun bt169 => ((dec_Add.f k t162 t163 t166 bt169.1 bt169.2.1 bt169.2.2.1).bind fun bt176 => (if (wrap64 ((wrap64 (t167 + bt169.2.2.2)) + bt176.2.2.2)) = 0 then ((G.dec_Dec_Text.f t162 t163 t166).bind fun t183 => (if t183.toList = ([45, 55, 46, 53] : List UInt8) then ((G.dec_Dec_Text.f bt169.1 bt169.2.1 bt169.2.2.1).bind fun t184 => (if t184.toList = ([48, 46, 53] : List UInt8) then ((G.dec_Dec_Text.f bt176.1 bt176.2.1 bt176.2.2.1).bind fun t185 => (if t185.toList = ([45, 55] : List UInt8) then ((dec_Dec_Whole.f bt176.1 bt176.2.1 bt176.2.2.1).bind fun t186 => (if t186 = true then ((dec_Cmp.f k t162 t163 t166 bt169.1 bt169.2.1 bt169.2.2.1).bind fun t187 => (if t187 = (-1) then ((dec_Dec_Total.f bt169.1 bt169.2.1 bt169.2.2.1).bind fun t188 => (if t188 = 1 then ((dec_Dec_Fraction.f bt169.1 bt169.2.1 bt169.2.2.1).bind fun t189 => (if t189 = 1 then ((dec_Neg.f t162 t163 t166).bind fun bt190 => ((G.dec_Dec_Text.f bt190.1 bt190.2.1 bt190.2.2).bind fun t195 => (some (t195.toList == ([55, 46, 53] : List UInt8))))) else (some false))) else (some false))) else (some false))) else (some false))) else (some false))) else (some false))) else (some false))) else (some false)))) = some r := H
 have A1 := Aside0.mk A10
 clear A10
 replace H := Option.bind_eq_some_iff.mp H
 obtain ⟨⟨t169, t170, t173, t174⟩, A20, H⟩ := H
 replace H : ((dec_Add.f k t162 t163 t166 t169 t170 t173).bind fun bt176 => (if (wrap64 ((wrap64 (t167 + t174)) + bt176.2.2.2)) = 0 then ((G.dec_Dec_Text.f t162 t163 t166).bind fun t183 => (if t183.toList = ([45, 55, 46, 53] : List UInt8) then ((G.dec_Dec_Text.f t169 t170 t173).bind fun t184 => (if t184.toList = ([48, 46, 53] : List UInt8) then ((G.dec_Dec_Text.f bt176.1 bt176.2.1 bt176.2.2.1).bind fun t185 => (if t185.toList = ([45, 55] : List UInt8) then ((dec_Dec_Whole.f bt176.1 bt176.2.1 bt176.2.2.1).bind fun t186 => (if t186 = true then ((dec_Cmp.f k t162 t163 t166 t169 t170 t173).bind fun t187 => (if t187 = (-1) then ((dec_Dec_Total.f t169 t170 t173).bind fun t188 => (if t188 = 1 then ((dec_Dec_Fraction.f t169 t170 t173).bind fun t189 => (if t189 = 1 then ((dec_Neg.f t162 t163 t166).bind fun bt190 => ((G.dec_Dec_Text.f bt190.1 bt190.2.1 bt190.2.2).bind fun t195 => (some (t195.toList == ([55, 46, 53] : List UInt8))))) else (some false))) else (some false))) else (some false))) else (some false))) else (some false))) else (some false))) else (some false))) else (some false))) = some r := H
 have A2 := Aside0.mk A20
 clear A20
 replace H := Option.bind_eq_some_iff.mp H
 obtain ⟨⟨t176, t177, t180, t181⟩, A30, H⟩ := H
 replace H : (if (wrap64 ((wrap64 (t167 + t174)) + t181)) = 0 then ((G.dec_Dec_Text.f t162 t163 t166).bind fun t183 => (if t183.toList = ([45, 55, 46, 53] : List UInt8) then ((G.dec_Dec_Text.f t169 t170 t173).bind fun t184 => (if t184.toList = ([48, 46, 53] : List UInt8) then ((G.dec_Dec_Text.f t176 t177 t180).bind fun t185 => (if t185.toList = ([45, 55] : List UInt8) then ((dec_Dec_Whole.f t176 t177 t180).bind fun t186 => (if t186 = true then ((dec_Cmp.f k t162 t163 t166 t169 t170 t173).bind fun t187 => (if t187 = (-1) then ((dec_Dec_Total.f t169 t170 t173).bind fun t188 => (if t188 = 1 then ((dec_Dec_Fraction.f t169 t170 t173).bind fun t189 => (if t189 = 1 then ((dec_Neg.f t162 t163 t166).bind fun bt190 => ((G.dec_Dec_Text.f bt190.1 bt190.2.1 bt190.2.2).bind fun t195 => (some (t195.toList == ([55, 46, 53] : List UInt8))))) else (some false))) else (some false))) else (some false))) else (some false))) else (some false))) else (some false))) else (some false))) else (some false)) = some r := H
 have A3 := Aside0.mk A30
 clear A30
 by_cases c4 : (wrap64 ((wrap64 (t167 + t174)) + t181)) = 0
 ·rw [if_pos c4] at H
  have c4b0 : ((wrap64 ((wrap64 (t167 + t174)) + t181)) == 0) = true := beq_iff_eq.mpr c4
  have c4b1 : ((wrap64 ((wrap64 (t167 + t174)) + t181)) != 0) = false := bne_eq_false_iff_eq.mpr c4
  clear c4
  replace H := Option.bind_eq_some_iff.mp H
  obtain ⟨t183, A50, H⟩ := H
  replace H : (if t183.toList = ([45, 55, 46, 53] : List UInt8) then ((G.dec_Dec_Text.f t169 t170 t173).bind fun t184 => (if t184.toList = ([48, 46, 53] : List UInt8) then ((G.dec_Dec_Text.f t176 t177 t180).bind fun t185 => (if t185.toList = ([45, 55] : List UInt8) then ((dec_Dec_Whole.f t176 t177 t180).bind fun t186 => (if t186 = true then ((dec_Cmp.f k t162 t163 t166 t169 t170 t173).bind fun t187 => (if t187 = (-1) then ((dec_Dec_Total.f t169 t170 t173).bind fun t188 => (if t188 = 1 then ((dec_Dec_Fraction.f t169 t170 t173).bind fun t189 => (if t189 = 1 then ((dec_Neg.f t162 t163 t166).bind fun bt190 => ((G.dec_Dec_Text.f bt190.1 bt190.2.1 bt190.2.2).bind fun t195 => (some (t195.toList == ([55, 46, 53] : List UInt8))))) else (some false))) else (some false))) else (some false))) else (some false))) else (some false))) else (some false))) else (some false)) = some r := H
  have A5 := Aside0.mk A50
  clear A50
  by_cases c6 : t183.toList = ([45, 55, 46, 53] : List UInt8)
  ·rw [if_pos c6] at H
   have c6b0 : (t183.toList == ([45, 55, 46, 53] : List UInt8)) = true := beq_iff_eq.mpr c6
   have c6b1 : (t183.toList != ([45, 55, 46, 53] : List UInt8)) = false := bne_eq_false_iff_eq.mpr c6
   clear c6
   replace H := Option.bind_eq_some_iff.mp H
   obtain ⟨t184, A70, H⟩ := H
   replace H : (if t184.toList = ([48, 46, 53] : List UInt8) then ((G.dec_Dec_Text.f t176 t177 t180).bind fun t185 => (if t185.toList = ([45, 55] : List UInt8) then ((dec_Dec_Whole.f t176 t177 t180).bind fun t186 => (if t186 = true then ((dec_Cmp.f k t162 t163 t166 t169 t170 t173).bind fun t187 => (if t187 = (-1) then ((dec_Dec_Total.f t169 t170 t173).bind fun t188 => (if t188 = 1 then ((dec_Dec_Fraction.f t169 t170 t173).bind fun t189 => (if t189 = 1 then ((dec_Neg.f t162 t163 t166).bind fun bt190 => ((G.dec_Dec_Text.f bt190.1 bt190.2.1 bt190.2.2).bind fun t195 => (some (t195.toList == ([55, 46, 53] : List UInt8))))) else (some false))) else (some false))) else (some false))) else (some false))) else (some false))) else (some false)) = some r := H
   have A7 := Aside0.mk A70
   clear A70
   by_cases c8 : t184.toList = ([48, 46, 53] : List UInt8)
   ·rw [if_pos c8] at H
    have c8b0 : (t184.toList == ([48, 46, 53] : List UInt8)) = true := beq_iff_eq.mpr c8
    have c8b1 : (t184.toList != ([48, 46, 53] : List UInt8)) = false := bne_eq_false_iff_eq.mpr c8
    clear c8
    replace H := Option.bind_eq_some_iff.mp H
    obtain ⟨t185, A90, H⟩ := H
    replace H : (if t185.toList = ([45, 55] : List UInt8) then ((dec_Dec_Whole.f t176 t177 t180).bind fun t186 => (if t186 = true then ((dec_Cmp.f k t162 t163 t166 t169 t170 t173).bind fun t187 => (if t187 = (-1) then ((dec_Dec_Total.f t169 t170 t173).bind fun t188 => (if t188 = 1 then ((dec_Dec_Fraction.f t169 t170 t173).bind fun t189 => (if t189 = 1 then ((dec_Neg.f t162 t163 t166).bind fun bt190 => ((G.dec_Dec_Text.f bt190.1 bt190.2.1 bt190.2.2).bind fun t195 => (some (t195.toList == ([55, 46, 53] : List UInt8))))) else (some false))) else (some false))) else (some false))) else (some false))) else (some false)) = some r := H
    have A9 := Aside0.mk A90
    clear A90
    by_cases c10 : t185.toList = ([45, 55] : List UInt8)
    ·rw [if_pos c10] at H
     have c10b0 : (t185.toList == ([45, 55] : List UInt8)) = true := beq_iff_eq.mpr c10
     have c10b1 : (t185.toList != ([45, 55] : List UInt8)) = false := bne_eq_false_iff_eq.mpr c10
     clear c10
     replace H := Option.bind_eq_some_iff.mp H
     obtain ⟨t186, A110, H⟩ := H
     replace H : (if t186 = true then ((dec_Cmp.f k t162 t163 t166 t169 t170 t173).bind fun t187 => (if t187 = (-1) then ((dec_Dec_Total.f t169 t170 t173).bind fun t188 => (if t188 = 1 then ((dec_Dec_Fraction.f t169 t170 t173).bind fun t189 => (if t189 = 1 then ((dec_Neg.f t162 t163 t166).bind fun bt190 => ((G.dec_Dec_Text.f bt190.1 bt190.2.1 bt190.2.2).bind fun t195 => (some (t195.toList == ([55, 46, 53] : List UInt8))))) else (some false))) else (some false))) else (some false))) else (some false)) = some r := H
     have A11 := Aside0.mk A110
     clear A110
     by_cases c12 : t186 = true
     ·subst c12
      have H1 : ((dec_Cmp.f k t162 t163 t166 t169 t170 t173).bind fun t187 => (if t187 = (-1) then ((dec_Dec_Total.f t169 t170 t173).bind fun t188 => (if t188 = 1 then ((dec_Dec_Fraction.f t169 t170 t173).bind fun t189 => (if t189 = 1 then ((dec_Neg.f t162 t163 t166).bind fun bt190 => ((G.dec_Dec_Text.f bt190.1 bt190.2.1 bt190.2.2).bind fun t195 => (some (t195.toList == ([55, 46, 53] : List UInt8))))) else (some false))) else (some false))) else (some false))) = some r := by rw [if_pos rfl] at H; exact H
      clear H
      have H := H1
      clear H1
      replace H := Option.bind_eq_some_iff.mp H
      obtain ⟨t187, A130, H⟩ := H
      replace H : (if t187 = (-1) then ((dec_Dec_Total.f t169 t170 t173).bind fun t188 => (if t188 = 1 then ((dec_Dec_Fraction.f t169 t170 t173).bind fun t189 => (if t189 = 1 then ((dec_Neg.f t162 t163 t166).bind fun bt190 => ((G.dec_Dec_Text.f bt190.1 bt190.2.1 bt190.2.2).bind fun t195 => (some (t195.toList == ([55, 46, 53] : List UInt8))))) else (some false))) else (some false))) else (some false)) = some r := H
      have A13 := Aside0.mk A130
      clear A130
      by_cases c14 : t187 = (-1)
      ·rw [if_pos c14] at H
       have c14b0 : (t187 == (-1)) = true := beq_iff_eq.mpr c14
       have c14b1 : (t187 != (-1)) = false := bne_eq_false_iff_eq.mpr c14
       clear c14
       replace H := Option.bind_eq_some_iff.mp H
       obtain ⟨t188, A150, H⟩ := H
       replace H : (if t188 = 1 then ((dec_Dec_Fraction.f t169 t170 t173).bind fun t189 => (if t189 = 1 then ((dec_Neg.f t162 t163 t166).bind fun bt190 => ((G.dec_Dec_Text.f bt190.1 bt190.2.1 bt190.2.2).bind fun t195 => (some (t195.toList == ([55, 46, 53] : List UInt8))))) else (some false))) else (some false)) = some r := H
       have A15 := Aside0.mk A150
       clear A150
       by_cases c16 : t188 = 1
       ·rw [if_pos c16] at H
        have c16b0 : (t188 == 1) = true := beq_iff_eq.mpr c16
        have c16b1 : (t188 != 1) = false := bne_eq_false_iff_eq.mpr c16
        clear c16
        replace H := Option.bind_eq_some_iff.mp H
        obtain ⟨t189, A170, H⟩ := H
        replace H : (if t189 = 1 then ((dec_Neg.f t162 t163 t166).bind fun bt190 => ((G.dec_Dec_Text.f bt190.1 bt190.2.1 bt190.2.2).bind fun t195 => (some (t195.toList == ([55, 46, 53] : List UInt8))))) else (some false)) = some r := H
        have A17 := Aside0.mk A170
        clear A170
        by_cases c18 : t189 = 1
        ·rw [if_pos c18] at H
         have c18b0 : (t189 == 1) = true := beq_iff_eq.mpr c18
         have c18b1 : (t189 != 1) = false := bne_eq_false_iff_eq.mpr c18
         clear c18
         replace H := Option.bind_eq_some_iff.mp H
         obtain ⟨⟨t190, t191, t194⟩, A190, H⟩ := H
         replace H : ((G.dec_Dec_Text.f t190 t191 t194).bind fun t195 => (some (t195.toList == ([55, 46, 53] : List UInt8)))) = some r := H
         have A19 := Aside0.mk A190
         clear A190
         replace H := Option.bind_eq_some_iff.mp H
         obtain ⟨t195, A200, H⟩ := H
         replace H : (some (t195.toList == ([55, 46, 53] : List UInt8))) = some r := H
         have A20 := Aside0.mk A200
         clear A200
         obtain rfl := Option.some.inj H
         go_enter Try.func6, Try.ntmps6
         go_wp2_with (first | ((with_reducible refine gate_callee (f := 7) rfl ?_); refine goesL_ (some 8) rfl rfl Try.func7 (by kernel_rfl) rfl #[.string (⟨#[45, 48, 48, 55, 46, 53, 48]⟩ : ByteArray)] rfl (by (try simp only [List.map_toArray, List.map_cons, List.map_nil]); first | done | rfl | (simp only [List.length_drop, List.length_take]; rfl)) ?_; (with_reducible refine (dec_Parse.calls k (⟨#[45, 48, 48, 55, 46, 53, 48]⟩ : ByteArray) t162 t163 t166 t167 _ A1.out).mono ?_); rintro e w21 ⟨v164, rfl, ho0, hb⟩; refine ⟨_, rfl, ?_⟩; have n0_ := Aside0.mk (Kd.V_lower (Kd.V_mono (ok' := fun k_ => True) ho0 (fun k_ hk_ => trivial)) (below_size (by repeat (first | (with_reducible first | exact HB.out | apply below_alloc | apply pw_below_drewN | apply below_drew1) | exact HB.out)))); have n1_ := Aside0.mk (below_step (by repeat (first | (with_reducible first | exact HB.out | apply below_alloc | apply pw_below_drewN | apply below_drew1) | exact HB.out)) hb); clear HB; have HO165 := n0_; have HB := n1_; clear n0_ n1_; (try clear hb); (try clear hb2); (try clear hk); (try clear hi); (try clear ho0)) | ((with_reducible refine gate_dst (N := 1) rfl ?_); refine box_event ?hg (N := 1) ?hd (cs := #[.bool false, .slice none 0 0, .int .i64 0]) (t := 25) ?hr ?_; (case hd => rfl); (case hg => rfl); (case hr => first | (go_simp; done) | (go_simp; rfl)); intro gb168 hg w22 hbox hb; have n0_ := Aside0.mk (Kd.V_below (Kd.V_elderB (S.v HO165.out) gb168 (Nat.le_of_eq hg.symm)) hb); have n1_ := Aside0.mk (below_step (by repeat (first | (with_reducible first | exact HB.out | apply below_alloc | apply pw_below_drewN | apply below_drew1) | exact HB.out)) hb); have n2_ := Aside0.mk (hbox); have n3_ := Aside0.mk ((by rw [hg]; exact (below_size (by repeat (first | (with_reducible first | exact HB.out | apply below_alloc | apply pw_below_drewN | apply below_drew1) | exact HB.out))) : w.heap.size ≤ gb168)); have n4_ := Aside0.mk ((by rw [hg]; exact (below_size (by repeat (first | (with_reducible first | exact HB.out | apply below_alloc | apply pw_below_drewN | apply below_drew1) | exact HB.out))) : w.heap.size ≤ gb168)); clear HO165; clear HB; have HO165 := n0_; have HB := n1_; have BK168 := n2_; have GW168 := n3_; have GE168 := n4_; clear n0_ n1_ n2_ n3_ n4_; clear hb hbox hg; have hcz23_0 : w22.cell? ⟨gb168, 0, none⟩ = some (.bool false) := (blk_cell BK168.out 0).trans rfl; have hcz23_1 : w22.cell? ⟨gb168, 1, none⟩ = some (.slice none 0 0) := (blk_cell BK168.out 1).trans rfl; have hcz23_2 : w22.cell? ⟨gb168, 2, none⟩ = some (.int .i64 0) := (blk_cell BK168.out 2).trans rfl; have hfz23_0 := blk_frozen BK168.out 0; have hfz23_1 := blk_frozen BK168.out 1; have hfz23_2 := blk_frozen BK168.out 2; obtain ⟨Ao24, co24, eo24⟩ := Kd.V_slice HO165.out; subst eo24) | ((with_reducible refine gate_callee (f := 7) rfl ?_); refine goesL_ (some 12) rfl rfl Try.func7 (by kernel_rfl) rfl #[.string (⟨#[43, 46, 53]⟩ : ByteArray)] rfl (by (try simp only [List.map_toArray, List.map_cons, List.map_nil]); first | done | rfl | (simp only [List.length_drop, List.length_take]; rfl)) ?_; (with_reducible refine (dec_Parse.calls k (⟨#[43, 46, 53]⟩ : ByteArray) t169 t170 t173 t174 _ A2.out).mono ?_); rintro e w25 ⟨v171, rfl, ho0, hb⟩; refine ⟨_, rfl, ?_⟩; have n0_ := Aside0.mk (Kd.V_below (by (with_reducible repeat (first | apply Kd.V_alloc | apply Kd.V_drewN | apply Kd.V_drew)); exact (Kd.V_mono (Kd.V_far (p := ⟨gb168, 2, none⟩) (Kd.V_far (p := ⟨gb168, 1, none⟩) (Kd.V_far (p := ⟨gb168, 0, none⟩) (Kd.V_mono HO165.out (fun k_ hk => (⟨hk, hk.2⟩ : _ ∧ k_ ≠ gb168))) (fun _ hk => hk.2) (.bool t162)) (fun _ hk => hk.2) (.slice Ao24 t163.length co24)) (fun _ hk => hk.2) (.int .i64 t166)) (fun _ h_ => h_.1))) hb); have n1_ := Aside0.mk (Kd.V_lower (Kd.V_mono (ok' := fun k_ => k_ ≠ gb168) ho0 (fun k_ hk_ => (Kd.freshB (g := gb168) (o := .cells #[.bool t162, .slice Ao24 t163.length co24, .int .i64 t166] 25 (0, 0)) (by (with_reducible repeat (first | refine blk_drewN ?_ _ | refine blk_drew ?_ | refine blk_alloc ?_ _)); refine blk_put (cs := #[.bool t162, .slice Ao24 t163.length co24, .int .i64 0]) ?_ 2 _ rfl; (with_reducible repeat (first | refine blk_drewN ?_ _ | refine blk_drew ?_ | refine blk_alloc ?_ _)); refine blk_put (cs := #[.bool t162, .slice none 0 0, .int .i64 0]) ?_ 1 _ rfl; (with_reducible repeat (first | refine blk_drewN ?_ _ | refine blk_drew ?_ | refine blk_alloc ?_ _)); refine blk_put (cs := #[.bool false, .slice none 0 0, .int .i64 0]) ?_ 0 _ rfl; (with_reducible repeat (first | refine blk_drewN ?_ _ | refine blk_drew ?_ | refine blk_alloc ?_ _)); exact BK168.out) k_ hk_))) (below_size (by repeat (first | (with_reducible first | exact HB.out | apply below_alloc | apply pw_below_drewN | apply below_drew1 | refine below_set ?_ GE168.out) | exact HB.out)))); have n2_ := Aside0.mk (blk_below (g := gb168) (o := .cells #[.bool t162, .slice Ao24 t163.length co24, .int .i64 t166] 25 (0, 0)) (by (with_reducible repeat (first | refine blk_drewN ?_ _ | refine blk_drew ?_ | refine blk_alloc ?_ _)); refine blk_put (cs := #[.bool t162, .slice Ao24 t163.length co24, .int .i64 0]) ?_ 2 _ rfl; (with_reducible repeat (first | refine blk_drewN ?_ _ | refine blk_drew ?_ | refine blk_alloc ?_ _)); refine blk_put (cs := #[.bool t162, .slice none 0 0, .int .i64 0]) ?_ 1 _ rfl; (with_reducible repeat (first | refine blk_drewN ?_ _ | refine blk_drew ?_ | refine blk_alloc ?_ _)); refine blk_put (cs := #[.bool false, .slice none 0 0, .int .i64 0]) ?_ 0 _ rfl; (with_reducible repeat (first | refine blk_drewN ?_ _ | refine blk_drew ?_ | refine blk_alloc ?_ _)); exact BK168.out) hb); have n3_ := Aside0.mk (below_step (by repeat (first | (with_reducible first | exact HB.out | apply below_alloc | apply pw_below_drewN | apply below_drew1 | refine below_set ?_ GE168.out) | exact HB.out)) hb); clear HO165; clear BK168; clear HB; have HO165 := n0_; have HO172 := n1_; have BK168 := n2_; have HB := n3_; clear n0_ n1_ n2_ n3_; (try clear hb); (try clear hb2); (try clear hk); (try clear hi); (try clear ho0)) | ((with_reducible refine gate_dst (N := 3) rfl ?_); refine box_event ?hg (N := 3) ?hd (cs := #[.bool false, .slice none 0 0, .int .i64 0]) (t := 25) ?hr ?_; (case hd => rfl); (case hg => rfl); (case hr => first | (go_simp; done) | (go_simp; rfl)); intro gb175 hg w26 hbox hb; have n0_ := Aside0.mk (Kd.V_below (Kd.V_elderB (S.v HO165.out) gb175 (Nat.le_of_eq hg.symm)) hb); have n1_ := Aside0.mk (Kd.V_below (Kd.V_elderB (S.v HO172.out) gb175 (Nat.le_of_eq hg.symm)) hb); have n2_ := Aside0.mk (blk_below (g := gb168) (o := .cells #[.bool t162, .slice Ao24 t163.length co24, .int .i64 t166] 25 (0, 0)) (S.b BK168.out) hb); have n3_ := Aside0.mk (below_step (by repeat (first | (with_reducible first | exact HB.out | apply below_alloc | apply pw_below_drewN | apply below_drew1 | refine below_set ?_ GE168.out) | exact HB.out)) hb); have n4_ := Aside0.mk (hbox); have n5_ := Aside0.mk ((by rw [hg]; exact (below_size (by repeat (first | (with_reducible first | exact HB.out | apply below_alloc | apply pw_below_drewN | apply below_drew1 | refine below_set ?_ GE168.out) | exact HB.out))) : w.heap.size ≤ gb175)); have n6_ := Aside0.mk ((by rw [hg]; exact (below_size (by repeat (first | (with_reducible first | exact HB.out | apply below_alloc | apply pw_below_drewN | apply below_drew1 | refine below_set ?_ GE168.out) | exact HB.out))) : w.heap.size ≤ gb175)); have n7_ := Aside0.mk ((by rw [hg]; exact Nat.ne_of_lt (blk_lt (g := gb168) (o := .cells #[.bool t162, .slice Ao24 t163.length co24, .int .i64 t166] 25 (0, 0)) (S.b BK168.out)) : gb168 ≠ gb175)); have n8_ := Aside0.mk ((by rw [hg]; exact Nat.ne_of_gt (blk_lt (g := gb168) (o := .cells #[.bool t162, .slice Ao24 t163.length co24, .int .i64 t166] 25 (0, 0)) (S.b BK168.out)) : gb175 ≠ gb168)); clear HO165; clear HO172; clear BK168; clear HB; have HO165 := n0_; have HO172 := n1_; have BK168 := n2_; have HB := n3_; have BK175 := n4_; have GW175 := n5_; have GE175 := n6_; have NB168_175 := n7_; have NB175_168 := n8_; clear n0_ n1_ n2_ n3_ n4_ n5_ n6_ n7_ n8_; clear hb hbox hg; have hnb27 := NB175_168.out; have hnc27 := NB168_175.out; have hcz28_0 : w26.cell? ⟨gb175, 0, none⟩ = some (.bool false) := (blk_cell BK175.out 0).trans rfl; have hcz28_1 : w26.cell? ⟨gb175, 1, none⟩ = some (.slice none 0 0) := (blk_cell BK175.out 1).trans rfl; have hcz28_2 : w26.cell? ⟨gb175, 2, none⟩ = some (.int .i64 0) := (blk_cell BK175.out 2).trans rfl; have hfz28_0 := blk_frozen BK175.out 0; have hfz28_1 := blk_frozen BK175.out 1; have hfz28_2 := blk_frozen BK175.out 2; obtain ⟨Ao29, co29, eo29⟩ := Kd.V_slice HO172.out; subst eo29) | ((with_reducible refine gate_store (t := 25) (p := 3) rfl ?_); refine store_event (t := 25) (p := 3) (v := ?vo_w30) (w1 := (((w26.setCell ⟨gb175, 0, none⟩ (.bool t169)).setCell ⟨gb175, 1, none⟩ (.slice Ao29 t170.length co29)).setCell ⟨gb175, 2, none⟩ (.int .i64 t173))) ?hg ?ho ?hn ?hr ?_; (case ho => rfl); (case hg => rfl); (case hn => rfl); (case hr => first | (go_simp; done) | (go_simp; rfl)); intro w30 hw; have n0_ : Aside0 (Kd.V (Kd.int .u8) 5 w30 w.heap.size (fun k_ => k_ ≠ gb168 ∧ k_ ≠ gb175) (.slice Ao24 t163.length co24) t163) := ⟨(by rw [hw]; exact (by (with_reducible repeat (first | apply Kd.V_alloc | apply Kd.V_drewN | apply Kd.V_drew)); exact Kd.V_mono (Kd.V_far (p := ⟨gb175, 2, none⟩) (Kd.V_far (p := ⟨gb175, 1, none⟩) (Kd.V_far (p := ⟨gb175, 0, none⟩) (Kd.V_mono HO165.out (fun k_ hk => (⟨hk, hk.2⟩ : _ ∧ k_ ≠ gb175))) (fun _ hk => hk.2) (.bool t169)) (fun _ hk => hk.2) (.slice Ao29 t170.length co29)) (fun _ hk => hk.2) (.int .i64 t173)) (fun _ hk => ⟨hk.1.1.2, hk.1.2⟩)))⟩; have n1_ : Aside0 (Kd.V (Kd.int .u8) 5 w30 w.heap.size (fun k_ => k_ ≠ gb168 ∧ k_ ≠ gb175) (.slice Ao29 t170.length co29) t170) := ⟨(by rw [hw]; exact (by (with_reducible repeat (first | apply Kd.V_alloc | apply Kd.V_drewN | apply Kd.V_drew)); exact Kd.V_mono (Kd.V_far (p := ⟨gb175, 2, none⟩) (Kd.V_far (p := ⟨gb175, 1, none⟩) (Kd.V_far (p := ⟨gb175, 0, none⟩) (Kd.V_mono HO172.out (fun k_ hk => (⟨hk, hk.2⟩ : _ ∧ k_ ≠ gb175))) (fun _ hk => hk.2) (.bool t169)) (fun _ hk => hk.2) (.slice Ao29 t170.length co29)) (fun _ hk => hk.2) (.int .i64 t173)) (fun _ hk => ⟨hk.1.1, hk.1.2⟩)))⟩; have n2_ : Aside0 (w30.heap[gb168]? = some (.cells #[.bool t162, .slice Ao24 t163.length co24, .int .i64 t166] 25 (0, 0))) := ⟨(by rw [hw]; exact (by (with_reducible repeat (first | refine blk_drewN ?_ _ | refine blk_drew ?_ | refine blk_alloc ?_ _)); refine blk_far ?_ NB168_175.out _; (with_reducible repeat (first | refine blk_drewN ?_ _ | refine blk_drew ?_ | refine blk_alloc ?_ _)); refine blk_far ?_ NB168_175.out _; (with_reducible repeat (first | refine blk_drewN ?_ _ | refine blk_drew ?_ | refine blk_alloc ?_ _)); refine blk_far ?_ NB168_175.out _; (with_reducible repeat (first | refine blk_drewN ?_ _ | refine blk_drew ?_ | refine blk_alloc ?_ _)); exact BK168.out))⟩; have n3_ : Aside0 (w30.heap[gb175]? = some (.cells #[.bool t169, .slice Ao29 t170.length co29, .int .i64 t173] 25 (0, 0))) := ⟨(by rw [hw]; exact (by (with_reducible repeat (first | refine blk_drewN ?_ _ | refine blk_drew ?_ | refine blk_alloc ?_ _)); refine blk_put (cs := #[.bool t169, .slice Ao29 t170.length co29, .int .i64 0]) ?_ 2 _ rfl; (with_reducible repeat (first | refine blk_drewN ?_ _ | refine blk_drew ?_ | refine blk_alloc ?_ _)); refine blk_put (cs := #[.bool t169, .slice none 0 0, .int .i64 0]) ?_ 1 _ rfl; (with_reducible repeat (first | refine blk_drewN ?_ _ | refine blk_drew ?_ | refine blk_alloc ?_ _)); refine blk_put (cs := #[.bool false, .slice none 0 0, .int .i64 0]) ?_ 0 _ rfl; (with_reducible repeat (first | refine blk_drewN ?_ _ | refine blk_drew ?_ | refine blk_alloc ?_ _)); exact BK175.out))⟩; have n4_ : Aside0 (Below w.heap.size w w30) := ⟨(by rw [hw]; exact (by repeat (first | (with_reducible first | exact HB.out | apply below_alloc | apply pw_below_drewN | apply below_drew1 | refine below_set ?_ GE168.out | refine below_set ?_ GE175.out) | exact HB.out)))⟩; clear hw; clear HO165; clear HO172; clear BK168; clear BK175; clear HB; have HO165 := n0_; have HO172 := n1_; have BK168 := n2_; have BK175 := n3_; have HB := n4_; clear n0_ n1_ n2_ n3_ n4_; have hcz31_0 : w30.cell? ⟨gb168, 0, none⟩ = some (.bool t162) := (blk_cell BK168.out 0).trans rfl; have hcz31_1 : w30.cell? ⟨gb168, 1, none⟩ = some (.slice Ao24 t163.length co24) := (blk_cell BK168.out 1).trans rfl; have hcz31_2 : w30.cell? ⟨gb168, 2, none⟩ = some (.int .i64 t166) := (blk_cell BK168.out 2).trans rfl; have hfz31_0 := blk_frozen BK168.out 0; have hfz31_1 := blk_frozen BK168.out 1; have hfz31_2 := blk_frozen BK168.out 2; have hcz32_0 : w30.cell? ⟨gb175, 0, none⟩ = some (.bool t169) := (blk_cell BK175.out 0).trans rfl; have hcz32_1 : w30.cell? ⟨gb175, 1, none⟩ = some (.slice Ao29 t170.length co29) := (blk_cell BK175.out 1).trans rfl; have hcz32_2 : w30.cell? ⟨gb175, 2, none⟩ = some (.int .i64 t173) := (blk_cell BK175.out 2).trans rfl; have hfz32_0 := blk_frozen BK175.out 0; have hfz32_1 := blk_frozen BK175.out 1; have hfz32_2 := blk_frozen BK175.out 2) | ((with_reducible refine gate_callee (f := 12) rfl ?_); refine goesL_ (some 18) rfl rfl Try.func12 (by kernel_rfl) rfl #[.agg #[.bool t162, .slice Ao24 t163.length co24, .int .i64 t166], .agg #[.bool t169, .slice Ao29 t170.length co29, .int .i64 t173]] rfl (by (try simp only [List.map_toArray, List.map_cons, List.map_nil]); first | done | rfl | (simp only [List.length_drop, List.length_take]; rfl)) ?_; (with_reducible refine (dec_Add.calls k t162 (fun k_ => (k_ ≠ gb168 ∧ k_ ≠ gb175)) _ _ t163 t166 t169 (fun k_ => (k_ ≠ gb168 ∧ k_ ≠ gb175)) _ _ t170 t173 t176 t177 t180 t181 _ ?side1 ?side2 A3.out).mono ?_); (case side1 => exact HO165.out); (case side2 => exact HO172.out); rintro e w33 ⟨v178, rfl, ho0, hb⟩; refine ⟨_, rfl, ?_⟩; have n0_ := Aside0.mk (Kd.V_below (S.v HO165.out) hb); have n1_ := Aside0.mk (Kd.V_below (S.v HO172.out) hb); have n2_ := Aside0.mk (Kd.V_lower (Kd.V_mono (ok' := fun k_ => k_ ≠ gb168 ∧ k_ ≠ gb175) ho0 (fun k_ hk_ => ⟨Or.elim hk_ (fun hs_ => Or.elim hs_ (fun hs_ => hs_.1) (fun hs_ => hs_.1)) (fun hn_ => (Kd.freshB (g := gb168) (o := .cells #[.bool t162, .slice Ao24 t163.length co24, .int .i64 t166] 25 (0, 0)) (S.b BK168.out) k_ hn_)), Or.elim hk_ (fun hs_ => Or.elim hs_ (fun hs_ => hs_.2) (fun hs_ => hs_.2)) (fun hn_ => (Kd.freshB (g := gb175) (o := .cells #[.bool t169, .slice Ao29 t170.length co29, .int .i64 t173] 25 (0, 0)) (S.b BK175.out) k_ hn_))⟩)) (below_size (by repeat (first | (with_reducible first | exact HB.out | apply below_alloc | apply pw_below_drewN | apply below_drew1 | refine below_set ?_ GE168.out | refine below_set ?_ GE175.out) | exact HB.out)))); have n3_ := Aside0.mk (blk_below (g := gb168) (o := .cells #[.bool t162, .slice Ao24 t163.length co24, .int .i64 t166] 25 (0, 0)) (S.b BK168.out) hb); have n4_ := Aside0.mk (blk_below (g := gb175) (o := .cells #[.bool t169, .slice Ao29 t170.length co29, .int .i64 t173] 25 (0, 0)) (S.b BK175.out) hb); have n5_ := Aside0.mk (below_step (by repeat (first | (with_reducible first | exact HB.out | apply below_alloc | apply pw_below_drewN | apply below_drew1 | refine below_set ?_ GE168.out | refine below_set ?_ GE175.out) | exact HB.out)) hb); clear HO165; clear HO172; clear BK168; clear BK175; clear HB; have HO165 := n0_; have HO172 := n1_; have HO179 := n2_; have BK168 := n3_; have BK175 := n4_; have HB := n5_; clear n0_ n1_ n2_ n3_ n4_ n5_; (try clear hb); (try clear hb2); (try clear hk); (try clear hi); (try clear ho0)) | ((with_reducible refine gate_dst (N := 5) rfl ?_); refine box_event ?hg (N := 5) ?hd (cs := #[.bool false, .slice none 0 0, .int .i64 0]) (t := 25) ?hr ?_; (case hd => rfl); (case hg => rfl); (case hr => first | (go_simp; done) | (go_simp; rfl)); intro gb182 hg w34 hbox hb; have n0_ := Aside0.mk (Kd.V_below (Kd.V_elderB (S.v HO165.out) gb182 (Nat.le_of_eq hg.symm)) hb); have n1_ := Aside0.mk (Kd.V_below (Kd.V_elderB (S.v HO172.out) gb182 (Nat.le_of_eq hg.symm)) hb); have n2_ := Aside0.mk (Kd.V_below (Kd.V_elderB (S.v HO179.out) gb182 (Nat.le_of_eq hg.symm)) hb); have n3_ := Aside0.mk (blk_below (g := gb168) (o := .cells #[.bool t162, .slice Ao24 t163.length co24, .int .i64 t166] 25 (0, 0)) (S.b BK168.out) hb); have n4_ := Aside0.mk (blk_below (g := gb175) (o := .cells #[.bool t169, .slice Ao29 t170.length co29, .int .i64 t173] 25 (0, 0)) (S.b BK175.out) hb); have n5_ := Aside0.mk (below_step (by repeat (first | (with_reducible first | exact HB.out | apply below_alloc | apply pw_below_drewN | apply below_drew1 | refine below_set ?_ GE168.out | refine below_set ?_ GE175.out) | exact HB.out)) hb); have n6_ := Aside0.mk (hbox); have n7_ := Aside0.mk ((by rw [hg]; exact (below_size (by repeat (first | (with_reducible first | exact HB.out | apply below_alloc | apply pw_below_drewN | apply below_drew1 | refine below_set ?_ GE168.out | refine below_set ?_ GE175.out) | exact HB.out))) : w.heap.size ≤ gb182)); have n8_ := Aside0.mk ((by rw [hg]; exact (below_size (by repeat (first | (with_reducible first | exact HB.out | apply below_alloc | apply pw_below_drewN | apply below_drew1 | refine below_set ?_ GE168.out | refine below_set ?_ GE175.out) | exact HB.out))) : w.heap.size ≤ gb182)); have n9_ := Aside0.mk ((by rw [hg]; exact Nat.ne_of_lt (blk_lt (g := gb168) (o := .cells #[.bool t162, .slice Ao24 t163.length co24, .int .i64 t166] 25 (0, 0)) (S.b BK168.out)) : gb168 ≠ gb182)); have n10_ := Aside0.mk ((by rw [hg]; exact Nat.ne_of_gt (blk_lt (g := gb168) (o := .cells #[.bool t162, .slice Ao24 t163.length co24, .int .i64 t166] 25 (0, 0)) (S.b BK168.out)) : gb182 ≠ gb168)); have n11_ := Aside0.mk ((by rw [hg]; exact Nat.ne_of_lt (blk_lt (g := gb175) (o := .cells #[.bool t169, .slice Ao29 t170.length co29, .int .i64 t173] 25 (0, 0)) (S.b BK175.out)) : gb175 ≠ gb182)); have n12_ := Aside0.mk ((by rw [hg]; exact Nat.ne_of_gt (blk_lt (g := gb175) (o := .cells #[.bool t169, .slice Ao29 t170.length co29, .int .i64 t173] 25 (0, 0)) (S.b BK175.out)) : gb182 ≠ gb175)); clear HO165; clear HO172; clear HO179; clear BK168; clear BK175; clear HB; have HO165 := n0_; have HO172 := n1_; have HO179 := n2_; have BK168 := n3_; have BK175 := n4_; have HB := n5_; have BK182 := n6_; have GW182 := n7_; have GE182 := n8_; have NB168_182 := n9_; have NB182_168 := n10_; have NB175_182 := n11_; have NB182_175 := n12_; clear n0_ n1_ n2_ n3_ n4_ n5_ n6_ n7_ n8_ n9_ n10_ n11_ n12_; clear hb hbox hg; have hnb35 := NB182_168.out; have hnc35 := NB168_182.out; have hnb36 := NB182_175.out; have hnc36 := NB175_182.out; have hcz37_0 : w34.cell? ⟨gb182, 0, none⟩ = some (.bool false) := (blk_cell BK182.out 0).trans rfl; have hcz37_1 : w34.cell? ⟨gb182, 1, none⟩ = some (.slice none 0 0) := (blk_cell BK182.out 1).trans rfl; have hcz37_2 : w34.cell? ⟨gb182, 2, none⟩ = some (.int .i64 0) := (blk_cell BK182.out 2).trans rfl; have hfz37_0 := blk_frozen BK182.out 0; have hfz37_1 := blk_frozen BK182.out 1; have hfz37_2 := blk_frozen BK182.out 2; obtain ⟨Ao38, co38, eo38⟩ := Kd.V_slice HO179.out; subst eo38; have hcz39_0 : w34.cell? ⟨gb168, 0, none⟩ = some (.bool t162) := (blk_cell BK168.out 0).trans rfl; have hcz39_1 : w34.cell? ⟨gb168, 1, none⟩ = some (.slice Ao24 t163.length co24) := (blk_cell BK168.out 1).trans rfl; have hcz39_2 : w34.cell? ⟨gb168, 2, none⟩ = some (.int .i64 t166) := (blk_cell BK168.out 2).trans rfl; have hfz39_0 := blk_frozen BK168.out 0; have hfz39_1 := blk_frozen BK168.out 1; have hfz39_2 := blk_frozen BK168.out 2) | (go_at_call 9; (with_reducible refine (G.dec_Dec_Text.calls t162 _ _ t163 t166 t183 _ ?side1 ?side2 A5.out).mono ?_); (case side1 => refine (Kd.V_reads' (e := 5) (base := w.heap.size) (ok := fun k_ => ((k_ ≠ gb168 ∧ k_ ≠ gb175) ∧ k_ ≠ gb182)) (n := t163.length) (c := co24) ?_).2.2; exact (by (with_reducible repeat (first | apply Kd.V_alloc | apply Kd.V_drewN | apply Kd.V_drew)); exact (Kd.V_mono (Kd.V_far (p := ⟨gb182, 2, none⟩) (Kd.V_far (p := ⟨gb182, 1, none⟩) (Kd.V_far (p := ⟨gb182, 0, none⟩) (Kd.V_mono HO165.out (fun k_ hk => (⟨hk, hk.2⟩ : _ ∧ k_ ≠ gb182))) (fun _ hk => hk.2) (.bool t176)) (fun _ hk => hk.2) (.slice Ao38 t177.length co38)) (fun _ hk => hk.2) (.int .i64 t180)) (fun _ h_ => h_.1)))); (case side2 => exact (Kd.V_reads' HO165.out).2.1); rintro e w40 ⟨rfl, hb⟩; have n0_ := Aside0.mk (Kd.V_below (by (with_reducible repeat (first | apply Kd.V_alloc | apply Kd.V_drewN | apply Kd.V_drew)); exact (Kd.V_mono (Kd.V_far (p := ⟨gb182, 2, none⟩) (Kd.V_far (p := ⟨gb182, 1, none⟩) (Kd.V_far (p := ⟨gb182, 0, none⟩) (Kd.V_mono HO165.out (fun k_ hk => (⟨hk, hk.2⟩ : _ ∧ k_ ≠ gb182))) (fun _ hk => hk.2) (.bool t176)) (fun _ hk => hk.2) (.slice Ao38 t177.length co38)) (fun _ hk => hk.2) (.int .i64 t180)) (fun _ h_ => h_.1))) hb); have n1_ := Aside0.mk (Kd.V_below (by (with_reducible repeat (first | apply Kd.V_alloc | apply Kd.V_drewN | apply Kd.V_drew)); exact (Kd.V_mono (Kd.V_far (p := ⟨gb182, 2, none⟩) (Kd.V_far (p := ⟨gb182, 1, none⟩) (Kd.V_far (p := ⟨gb182, 0, none⟩) (Kd.V_mono HO172.out (fun k_ hk => (⟨hk, hk.2⟩ : _ ∧ k_ ≠ gb182))) (fun _ hk => hk.2) (.bool t176)) (fun _ hk => hk.2) (.slice Ao38 t177.length co38)) (fun _ hk => hk.2) (.int .i64 t180)) (fun _ h_ => h_.1))) hb); have n2_ := Aside0.mk (Kd.V_below (by (with_reducible repeat (first | apply Kd.V_alloc | apply Kd.V_drewN | apply Kd.V_drew)); exact (Kd.V_mono (Kd.V_far (p := ⟨gb182, 2, none⟩) (Kd.V_far (p := ⟨gb182, 1, none⟩) (Kd.V_far (p := ⟨gb182, 0, none⟩) (Kd.V_mono HO179.out (fun k_ hk => (⟨hk, hk.2⟩ : _ ∧ k_ ≠ gb182))) (fun _ hk => hk.2) (.bool t176)) (fun _ hk => hk.2) (.slice Ao38 t177.length co38)) (fun _ hk => hk.2) (.int .i64 t180)) (fun _ h_ => h_.1))) hb); have n3_ := Aside0.mk (blk_below (g := gb168) (o := .cells #[.bool t162, .slice Ao24 t163.length co24, .int .i64 t166] 25 (0, 0)) (by (with_reducible repeat (first | refine blk_drewN ?_ _ | refine blk_drew ?_ | refine blk_alloc ?_ _)); refine blk_far ?_ NB168_182.out _; (with_reducible repeat (first | refine blk_drewN ?_ _ | refine blk_drew ?_ | refine blk_alloc ?_ _)); refine blk_far ?_ NB168_182.out _; (with_reducible repeat (first | refine blk_drewN ?_ _ | refine blk_drew ?_ | refine blk_alloc ?_ _)); refine blk_far ?_ NB168_182.out _; (with_reducible repeat (first | refine blk_drewN ?_ _ | refine blk_drew ?_ | refine blk_alloc ?_ _)); exact BK168.out) hb); have n4_ := Aside0.mk (blk_below (g := gb175) (o := .cells #[.bool t169, .slice Ao29 t170.length co29, .int .i64 t173] 25 (0, 0)) (by (with_reducible repeat (first | refine blk_drewN ?_ _ | refine blk_drew ?_ | refine blk_alloc ?_ _)); refine blk_far ?_ NB175_182.out _; (with_reducible repeat (first | refine blk_drewN ?_ _ | refine blk_drew ?_ | refine blk_alloc ?_ _)); refine blk_far ?_ NB175_182.out _; (with_reducible repeat (first | refine blk_drewN ?_ _ | refine blk_drew ?_ | refine blk_alloc ?_ _)); refine blk_far ?_ NB175_182.out _; (with_reducible repeat (first | refine blk_drewN ?_ _ | refine blk_drew ?_ | refine blk_alloc ?_ _)); exact BK175.out) hb); have n5_ := Aside0.mk (blk_below (g := gb182) (o := .cells #[.bool t176, .slice Ao38 t177.length co38, .int .i64 t180] 25 (0, 0)) (by (with_reducible repeat (first | refine blk_drewN ?_ _ | refine blk_drew ?_ | refine blk_alloc ?_ _)); refine blk_put (cs := #[.bool t176, .slice Ao38 t177.length co38, .int .i64 0]) ?_ 2 _ rfl; (with_reducible repeat (first | refine blk_drewN ?_ _ | refine blk_drew ?_ | refine blk_alloc ?_ _)); refine blk_put (cs := #[.bool t176, .slice none 0 0, .int .i64 0]) ?_ 1 _ rfl; (with_reducible repeat (first | refine blk_drewN ?_ _ | refine blk_drew ?_ | refine blk_alloc ?_ _)); refine blk_put (cs := #[.bool false, .slice none 0 0, .int .i64 0]) ?_ 0 _ rfl; (with_reducible repeat (first | refine blk_drewN ?_ _ | refine blk_drew ?_ | refine blk_alloc ?_ _)); exact BK182.out) hb); have n6_ := Aside0.mk (below_step (by repeat (first | (with_reducible first | exact HB.out | apply below_alloc | apply pw_below_drewN | apply below_drew1 | refine below_set ?_ GE168.out | refine below_set ?_ GE175.out | refine below_set ?_ GE182.out) | exact HB.out)) hb); clear HO165; clear HO172; clear HO179; clear BK168; clear BK175; clear BK182; clear HB; have HO165 := n0_; have HO172 := n1_; have HO179 := n2_; have BK168 := n3_; have BK175 := n4_; have BK182 := n5_; have HB := n6_; clear n0_ n1_ n2_ n3_ n4_ n5_ n6_; (try clear hb); (try clear hb2); (try clear hk); (try clear hi); have hcz41_0 : w40.cell? ⟨gb175, 0, none⟩ = some (.bool t169) := (blk_cell BK175.out 0).trans rfl; have hcz41_1 : w40.cell? ⟨gb175, 1, none⟩ = some (.slice Ao29 t170.length co29) := (blk_cell BK175.out 1).trans rfl; have hcz41_2 : w40.cell? ⟨gb175, 2, none⟩ = some (.int .i64 t173) := (blk_cell BK175.out 2).trans rfl; have hfz41_0 := blk_frozen BK175.out 0; have hfz41_1 := blk_frozen BK175.out 1; have hfz41_2 := blk_frozen BK175.out 2) | (go_at_call 9; (with_reducible refine (G.dec_Dec_Text.calls t169 _ _ t170 t173 t184 _ ?side1 ?side2 A7.out).mono ?_); (case side1 => repeat (first | exact (Kd.V_reads' HO172.out).2.2 | (with_reducible refine Kd.C_alloc ?_ _) | (with_reducible refine Kd.C_drewN ?_ _) | (with_reducible refine Kd.C_drew ?_))); (case side2 => exact (Kd.V_reads' HO172.out).2.1); rintro e w42 ⟨rfl, hb⟩; have n0_ := Aside0.mk (Kd.V_below (S.v HO165.out) hb); have n1_ := Aside0.mk (Kd.V_below (S.v HO172.out) hb); have n2_ := Aside0.mk (Kd.V_below (S.v HO179.out) hb); have n3_ := Aside0.mk (blk_below (g := gb168) (o := .cells #[.bool t162, .slice Ao24 t163.length co24, .int .i64 t166] 25 (0, 0)) (S.b BK168.out) hb); have n4_ := Aside0.mk (blk_below (g := gb175) (o := .cells #[.bool t169, .slice Ao29 t170.length co29, .int .i64 t173] 25 (0, 0)) (S.b BK175.out) hb); have n5_ := Aside0.mk (blk_below (g := gb182) (o := .cells #[.bool t176, .slice Ao38 t177.length co38, .int .i64 t180] 25 (0, 0)) (S.b BK182.out) hb); have n6_ := Aside0.mk (below_step (by repeat (first | (with_reducible first | exact HB.out | apply below_alloc | apply pw_below_drewN | apply below_drew1 | refine below_set ?_ GE168.out | refine below_set ?_ GE175.out | refine below_set ?_ GE182.out) | exact HB.out)) hb); clear HO165; clear HO172; clear HO179; clear BK168; clear BK175; clear BK182; clear HB; have HO165 := n0_; have HO172 := n1_; have HO179 := n2_; have BK168 := n3_; have BK175 := n4_; have BK182 := n5_; have HB := n6_; clear n0_ n1_ n2_ n3_ n4_ n5_ n6_; (try clear hb); (try clear hb2); (try clear hk); (try clear hi); have hcz43_0 : w42.cell? ⟨gb182, 0, none⟩ = some (.bool t176) := (blk_cell BK182.out 0).trans rfl; have hcz43_1 : w42.cell? ⟨gb182, 1, none⟩ = some (.slice Ao38 t177.length co38) := (blk_cell BK182.out 1).trans rfl; have hcz43_2 : w42.cell? ⟨gb182, 2, none⟩ = some (.int .i64 t180) := (blk_cell BK182.out 2).trans rfl; have hfz43_0 := blk_frozen BK182.out 0; have hfz43_1 := blk_frozen BK182.out 1; have hfz43_2 := blk_frozen BK182.out 2) | (go_at_call 9; (with_reducible refine (G.dec_Dec_Text.calls t176 _ _ t177 t180 t185 _ ?side1 ?side2 A9.out).mono ?_); (case side1 => repeat (first | exact (Kd.V_reads' HO179.out).2.2 | (with_reducible refine Kd.C_alloc ?_ _) | (with_reducible refine Kd.C_drewN ?_ _) | (with_reducible refine Kd.C_drew ?_))); (case side2 => exact (Kd.V_reads' HO179.out).2.1); rintro e w44 ⟨rfl, hb⟩; have n0_ := Aside0.mk (Kd.V_below (S.v HO165.out) hb); have n1_ := Aside0.mk (Kd.V_below (S.v HO172.out) hb); have n2_ := Aside0.mk (Kd.V_below (S.v HO179.out) hb); have n3_ := Aside0.mk (blk_below (g := gb168) (o := .cells #[.bool t162, .slice Ao24 t163.length co24, .int .i64 t166] 25 (0, 0)) (S.b BK168.out) hb); have n4_ := Aside0.mk (blk_below (g := gb175) (o := .cells #[.bool t169, .slice Ao29 t170.length co29, .int .i64 t173] 25 (0, 0)) (S.b BK175.out) hb); have n5_ := Aside0.mk (blk_below (g := gb182) (o := .cells #[.bool t176, .slice Ao38 t177.length co38, .int .i64 t180] 25 (0, 0)) (S.b BK182.out) hb); have n6_ := Aside0.mk (below_step (by repeat (first | (with_reducible first | exact HB.out | apply below_alloc | apply pw_below_drewN | apply below_drew1 | refine below_set ?_ GE168.out | refine below_set ?_ GE175.out | refine below_set ?_ GE182.out) | exact HB.out)) hb); clear HO165; clear HO172; clear HO179; clear BK168; clear BK175; clear BK182; clear HB; have HO165 := n0_; have HO172 := n1_; have HO179 := n2_; have BK168 := n3_; have BK175 := n4_; have BK182 := n5_; have HB := n6_; clear n0_ n1_ n2_ n3_ n4_ n5_ n6_; (try clear hb); (try clear hb2); (try clear hk); (try clear hi); have hcz45_0 : w44.cell? ⟨gb182, 0, none⟩ = some (.bool t176) := (blk_cell BK182.out 0).trans rfl; have hcz45_1 : w44.cell? ⟨gb182, 1, none⟩ = some (.slice Ao38 t177.length co38) := (blk_cell BK182.out 1).trans rfl; have hcz45_2 : w44.cell? ⟨gb182, 2, none⟩ = some (.int .i64 t180) := (blk_cell BK182.out 2).trans rfl; have hfz45_0 := blk_frozen BK182.out 0; have hfz45_1 := blk_frozen BK182.out 1; have hfz45_2 := blk_frozen BK182.out 2) | (go_at_call 19; (with_reducible refine (dec_Dec_Whole.calls t176 _ _ t177 t180 true _ ?side1 ?side2 A11.out).mono ?_); (case side1 => repeat (first | exact (Kd.V_reads' HO179.out).2.2 | (with_reducible refine Kd.C_alloc ?_ _) | (with_reducible refine Kd.C_drewN ?_ _) | (with_reducible refine Kd.C_drew ?_))); (case side2 => exact (Kd.V_reads' HO179.out).2.1); rintro e w46 ⟨rfl, hb⟩; have n0_ := Aside0.mk (Kd.V_below (S.v HO165.out) hb); have n1_ := Aside0.mk (Kd.V_below (S.v HO172.out) hb); have n2_ := Aside0.mk (Kd.V_below (S.v HO179.out) hb); have n3_ := Aside0.mk (blk_below (g := gb168) (o := .cells #[.bool t162, .slice Ao24 t163.length co24, .int .i64 t166] 25 (0, 0)) (S.b BK168.out) hb); have n4_ := Aside0.mk (blk_below (g := gb175) (o := .cells #[.bool t169, .slice Ao29 t170.length co29, .int .i64 t173] 25 (0, 0)) (S.b BK175.out) hb); have n5_ := Aside0.mk (blk_below (g := gb182) (o := .cells #[.bool t176, .slice Ao38 t177.length co38, .int .i64 t180] 25 (0, 0)) (S.b BK182.out) hb); have n6_ := Aside0.mk (below_step (by repeat (first | (with_reducible first | exact HB.out | apply below_alloc | apply pw_below_drewN | apply below_drew1 | refine below_set ?_ GE168.out | refine below_set ?_ GE175.out | refine below_set ?_ GE182.out) | exact HB.out)) hb); clear HO165; clear HO172; clear HO179; clear BK168; clear BK175; clear BK182; clear HB; have HO165 := n0_; have HO172 := n1_; have HO179 := n2_; have BK168 := n3_; have BK175 := n4_; have BK182 := n5_; have HB := n6_; clear n0_ n1_ n2_ n3_ n4_ n5_ n6_; (try clear hb); (try clear hb2); (try clear hk); (try clear hi); have hcz47_0 : w46.cell? ⟨gb168, 0, none⟩ = some (.bool t162) := (blk_cell BK168.out 0).trans rfl; have hcz47_1 : w46.cell? ⟨gb168, 1, none⟩ = some (.slice Ao24 t163.length co24) := (blk_cell BK168.out 1).trans rfl; have hcz47_2 : w46.cell? ⟨gb168, 2, none⟩ = some (.int .i64 t166) := (blk_cell BK168.out 2).trans rfl; have hfz47_0 := blk_frozen BK168.out 0; have hfz47_1 := blk_frozen BK168.out 1; have hfz47_2 := blk_frozen BK168.out 2; have hcz48_0 : w46.cell? ⟨gb175, 0, none⟩ = some (.bool t169) := (blk_cell BK175.out 0).trans rfl; have hcz48_1 : w46.cell? ⟨gb175, 1, none⟩ = some (.slice Ao29 t170.length co29) := (blk_cell BK175.out 1).trans rfl; have hcz48_2 : w46.cell? ⟨gb175, 2, none⟩ = some (.int .i64 t173) := (blk_cell BK175.out 2).trans rfl; have hfz48_0 := blk_frozen BK175.out 0; have hfz48_1 := blk_frozen BK175.out 1; have hfz48_2 := blk_frozen BK175.out 2) | (go_at_call 8; (with_reducible refine (dec_Cmp.calls k t162 _ _ t163 t166 t169 _ _ t170 t173 t187 _ ?side1 ?side2 ?side3 ?side4 A13.out).mono ?_); (case side1 => repeat (first | exact (Kd.V_reads' HO165.out).2.2 | (with_reducible refine Kd.C_alloc ?_ _) | (with_reducible refine Kd.C_drewN ?_ _) | (with_reducible refine Kd.C_drew ?_))); (case side2 => exact (Kd.V_reads' HO165.out).2.1); (case side3 => repeat (first | exact (Kd.V_reads' HO172.out).2.2 | (with_reducible refine Kd.C_alloc ?_ _) | (with_reducible refine Kd.C_drewN ?_ _) | (with_reducible refine Kd.C_drew ?_))); (case side4 => exact (Kd.V_reads' HO172.out).2.1); rintro e w49 ⟨rfl, hb⟩; have n0_ := Aside0.mk (Kd.V_below (S.v HO165.out) hb); have n1_ := Aside0.mk (Kd.V_below (S.v HO172.out) hb); have n2_ := Aside0.mk (Kd.V_below (S.v HO179.out) hb); have n3_ := Aside0.mk (blk_below (g := gb168) (o := .cells #[.bool t162, .slice Ao24 t163.length co24, .int .i64 t166] 25 (0, 0)) (S.b BK168.out) hb); have n4_ := Aside0.mk (blk_below (g := gb175) (o := .cells #[.bool t169, .slice Ao29 t170.length co29, .int .i64 t173] 25 (0, 0)) (S.b BK175.out) hb); have n5_ := Aside0.mk (blk_below (g := gb182) (o := .cells #[.bool t176, .slice Ao38 t177.length co38, .int .i64 t180] 25 (0, 0)) (S.b BK182.out) hb); have n6_ := Aside0.mk (below_step (by repeat (first | (with_reducible first | exact HB.out | apply below_alloc | apply pw_below_drewN | apply below_drew1 | refine below_set ?_ GE168.out | refine below_set ?_ GE175.out | refine below_set ?_ GE182.out) | exact HB.out)) hb); clear HO165; clear HO172; clear HO179; clear BK168; clear BK175; clear BK182; clear HB; have HO165 := n0_; have HO172 := n1_; have HO179 := n2_; have BK168 := n3_; have BK175 := n4_; have BK182 := n5_; have HB := n6_; clear n0_ n1_ n2_ n3_ n4_ n5_ n6_; (try clear hb); (try clear hb2); (try clear hk); (try clear hi); have hcz50_0 : w49.cell? ⟨gb175, 0, none⟩ = some (.bool t169) := (blk_cell BK175.out 0).trans rfl; have hcz50_1 : w49.cell? ⟨gb175, 1, none⟩ = some (.slice Ao29 t170.length co29) := (blk_cell BK175.out 1).trans rfl; have hcz50_2 : w49.cell? ⟨gb175, 2, none⟩ = some (.int .i64 t173) := (blk_cell BK175.out 2).trans rfl; have hfz50_0 := blk_frozen BK175.out 0; have hfz50_1 := blk_frozen BK175.out 1; have hfz50_2 := blk_frozen BK175.out 2) | (go_at_call 10; (with_reducible refine (dec_Dec_Total.calls t169 _ _ t170 t173 t188 _ ?side1 ?side2 A15.out).mono ?_); (case side1 => repeat (first | exact (Kd.V_reads' HO172.out).2.2 | (with_reducible refine Kd.C_alloc ?_ _) | (with_reducible refine Kd.C_drewN ?_ _) | (with_reducible refine Kd.C_drew ?_))); (case side2 => exact (Kd.V_reads' HO172.out).2.1); rintro e w51 ⟨rfl, hb⟩; have n0_ := Aside0.mk (Kd.V_below (S.v HO165.out) hb); have n1_ := Aside0.mk (Kd.V_below (S.v HO172.out) hb); have n2_ := Aside0.mk (Kd.V_below (S.v HO179.out) hb); have n3_ := Aside0.mk (blk_below (g := gb168) (o := .cells #[.bool t162, .slice Ao24 t163.length co24, .int .i64 t166] 25 (0, 0)) (S.b BK168.out) hb); have n4_ := Aside0.mk (blk_below (g := gb175) (o := .cells #[.bool t169, .slice Ao29 t170.length co29, .int .i64 t173] 25 (0, 0)) (S.b BK175.out) hb); have n5_ := Aside0.mk (blk_below (g := gb182) (o := .cells #[.bool t176, .slice Ao38 t177.length co38, .int .i64 t180] 25 (0, 0)) (S.b BK182.out) hb); have n6_ := Aside0.mk (below_step (by repeat (first | (with_reducible first | exact HB.out | apply below_alloc | apply pw_below_drewN | apply below_drew1 | refine below_set ?_ GE168.out | refine below_set ?_ GE175.out | refine below_set ?_ GE182.out) | exact HB.out)) hb); clear HO165; clear HO172; clear HO179; clear BK168; clear BK175; clear BK182; clear HB; have HO165 := n0_; have HO172 := n1_; have HO179 := n2_; have BK168 := n3_; have BK175 := n4_; have BK182 := n5_; have HB := n6_; clear n0_ n1_ n2_ n3_ n4_ n5_ n6_; (try clear hb); (try clear hb2); (try clear hk); (try clear hi); have hcz52_0 : w51.cell? ⟨gb175, 0, none⟩ = some (.bool t169) := (blk_cell BK175.out 0).trans rfl; have hcz52_1 : w51.cell? ⟨gb175, 1, none⟩ = some (.slice Ao29 t170.length co29) := (blk_cell BK175.out 1).trans rfl; have hcz52_2 : w51.cell? ⟨gb175, 2, none⟩ = some (.int .i64 t173) := (blk_cell BK175.out 2).trans rfl; have hfz52_0 := blk_frozen BK175.out 0; have hfz52_1 := blk_frozen BK175.out 1; have hfz52_2 := blk_frozen BK175.out 2) | (go_at_call 11; (with_reducible refine (dec_Dec_Fraction.calls t169 _ _ t170 t173 t189 _ ?side1 ?side2 A17.out).mono ?_); (case side1 => repeat (first | exact (Kd.V_reads' HO172.out).2.2 | (with_reducible refine Kd.C_alloc ?_ _) | (with_reducible refine Kd.C_drewN ?_ _) | (with_reducible refine Kd.C_drew ?_))); (case side2 => exact (Kd.V_reads' HO172.out).2.1); rintro e w53 ⟨rfl, hb⟩; have n0_ := Aside0.mk (Kd.V_below (S.v HO165.out) hb); have n1_ := Aside0.mk (Kd.V_below (S.v HO172.out) hb); have n2_ := Aside0.mk (Kd.V_below (S.v HO179.out) hb); have n3_ := Aside0.mk (blk_below (g := gb168) (o := .cells #[.bool t162, .slice Ao24 t163.length co24, .int .i64 t166] 25 (0, 0)) (S.b BK168.out) hb); have n4_ := Aside0.mk (blk_below (g := gb175) (o := .cells #[.bool t169, .slice Ao29 t170.length co29, .int .i64 t173] 25 (0, 0)) (S.b BK175.out) hb); have n5_ := Aside0.mk (blk_below (g := gb182) (o := .cells #[.bool t176, .slice Ao38 t177.length co38, .int .i64 t180] 25 (0, 0)) (S.b BK182.out) hb); have n6_ := Aside0.mk (below_step (by repeat (first | (with_reducible first | exact HB.out | apply below_alloc | apply pw_below_drewN | apply below_drew1 | refine below_set ?_ GE168.out | refine below_set ?_ GE175.out | refine below_set ?_ GE182.out) | exact HB.out)) hb); clear HO165; clear HO172; clear HO179; clear BK168; clear BK175; clear BK182; clear HB; have HO165 := n0_; have HO172 := n1_; have HO179 := n2_; have BK168 := n3_; have BK175 := n4_; have BK182 := n5_; have HB := n6_; clear n0_ n1_ n2_ n3_ n4_ n5_ n6_; (try clear hb); (try clear hb2); (try clear hk); (try clear hi); have hcz54_0 : w53.cell? ⟨gb168, 0, none⟩ = some (.bool t162) := (blk_cell BK168.out 0).trans rfl; have hcz54_1 : w53.cell? ⟨gb168, 1, none⟩ = some (.slice Ao24 t163.length co24) := (blk_cell BK168.out 1).trans rfl; have hcz54_2 : w53.cell? ⟨gb168, 2, none⟩ = some (.int .i64 t166) := (blk_cell BK168.out 2).trans rfl; have hfz54_0 := blk_frozen BK168.out 0; have hfz54_1 := blk_frozen BK168.out 1; have hfz54_2 := blk_frozen BK168.out 2) | (go_at_call 13; (with_reducible refine (dec_Neg.calls t162 _ _ t163 t166 t190 t191 t194 _ ?side1 ?side2 A19.out).mono ?_); (case side1 => repeat (first | exact (Kd.V_reads' HO165.out).2.2 | (with_reducible refine Kd.C_alloc ?_ _) | (with_reducible refine Kd.C_drewN ?_ _) | (with_reducible refine Kd.C_drew ?_))); (case side2 => exact (Kd.V_reads' HO165.out).2.1); rintro e w55 ⟨v192, rfl, ho0, hb⟩; have n0_ := Aside0.mk (Kd.V_elder' (S.v HO165.out) (Kd.R_base ho0) hb); have n1_ := Aside0.mk (Kd.V_elder' (S.v HO172.out) (Kd.R_base ho0) hb); have n2_ := Aside0.mk (Kd.V_elder' (S.v HO179.out) (Kd.R_base ho0) hb); have n3_ := Aside0.mk (Kd.R_lower ho0 (below_size (by repeat (first | (with_reducible first | exact HB.out | apply below_alloc | apply pw_below_drewN | apply below_drew1 | refine below_set ?_ GE168.out | refine below_set ?_ GE175.out | refine below_set ?_ GE182.out) | exact HB.out)))); have n4_ := Aside0.mk (blk_below (g := gb168) (o := .cells #[.bool t162, .slice Ao24 t163.length co24, .int .i64 t166] 25 (0, 0)) (S.b BK168.out) hb); have n5_ := Aside0.mk (blk_below (g := gb175) (o := .cells #[.bool t169, .slice Ao29 t170.length co29, .int .i64 t173] 25 (0, 0)) (S.b BK175.out) hb); have n6_ := Aside0.mk (blk_below (g := gb182) (o := .cells #[.bool t176, .slice Ao38 t177.length co38, .int .i64 t180] 25 (0, 0)) (S.b BK182.out) hb); have n7_ := Aside0.mk (below_step (by repeat (first | (with_reducible first | exact HB.out | apply below_alloc | apply pw_below_drewN | apply below_drew1 | refine below_set ?_ GE168.out | refine below_set ?_ GE175.out | refine below_set ?_ GE182.out) | exact HB.out)) hb); clear HO165; clear HO172; clear HO179; clear BK168; clear BK175; clear BK182; clear HB; have HO165 := n0_; have HO172 := n1_; have HO179 := n2_; have HO193 := n3_; have BK168 := n4_; have BK175 := n5_; have BK182 := n6_; have HB := n7_; clear n0_ n1_ n2_ n3_ n4_ n5_ n6_ n7_; (try clear hb); (try clear hb2); (try clear hk); (try clear hi); (try clear ho0); obtain ⟨Ao56, co56, eo56⟩ := Kd.R_slice HO193.out; subst eo56) | (go_at_call 9; (with_reducible refine (G.dec_Dec_Text.calls t190 _ _ t191 t194 t195 _ ?side1 ?side2 A20.out).mono ?_); (case side1 => repeat (first | exact (Kd.R_reads' HO193.out).2.2 | (with_reducible refine Kd.C_alloc ?_ _) | (with_reducible refine Kd.C_drewN ?_ _) | (with_reducible refine Kd.C_drew ?_))); (case side2 => exact (Kd.R_reads' HO193.out).2.1); rintro e w57 ⟨rfl, hb⟩; have n0_ := Aside0.mk (Kd.V_below (S.v HO165.out) hb); have n1_ := Aside0.mk (Kd.V_below (S.v HO172.out) hb); have n2_ := Aside0.mk (Kd.V_below (S.v HO179.out) hb); have n3_ := Aside0.mk (Kd.R_below (S.r HO193.out) hb); have n4_ := Aside0.mk (blk_below (g := gb168) (o := .cells #[.bool t162, .slice Ao24 t163.length co24, .int .i64 t166] 25 (0, 0)) (S.b BK168.out) hb); have n5_ := Aside0.mk (blk_below (g := gb175) (o := .cells #[.bool t169, .slice Ao29 t170.length co29, .int .i64 t173] 25 (0, 0)) (S.b BK175.out) hb); have n6_ := Aside0.mk (blk_below (g := gb182) (o := .cells #[.bool t176, .slice Ao38 t177.length co38, .int .i64 t180] 25 (0, 0)) (S.b BK182.out) hb); have n7_ := Aside0.mk (below_step (by repeat (first | (with_reducible first | exact HB.out | apply below_alloc | apply pw_below_drewN | apply below_drew1 | refine below_set ?_ GE168.out | refine below_set ?_ GE175.out | refine below_set ?_ GE182.out) | exact HB.out)) hb); clear HO165; clear HO172; clear HO179; clear HO193; clear BK168; clear BK175; clear BK182; clear HB; have HO165 := n0_; have HO172 := n1_; have HO179 := n2_; have HO193 := n3_; have BK168 := n4_; have BK175 := n5_; have BK182 := n6_; have HB := n7_; clear n0_ n1_ n2_ n3_ n4_ n5_ n6_ n7_; (try clear hb); (try clear hb2); (try clear hk); (try clear hi)))
         go_ret
         exact ⟨by first | rfl | (simp [errW_none, errW_some] <;> rfl) | (simp [*, errW_none, errW_some] <;> rfl), by repeat (first | (with_reducible first | exact HB.out | apply below_alloc | apply pw_below_drewN | apply below_drew1 | refine below_set ?_ GE168.out | refine below_set ?_ GE175.out | refine below_set ?_ GE182.out) | exact HB.out)⟩
        ·rw [if_neg c18] at H
         have c18b0 : (t189 == 1) = false := beq_eq_false_iff_ne.mpr c18
         have c18b1 : (t189 != 1) = true := bne_iff_ne.mpr c18
         exact absurd ((Option.some.inj H).trans HRT.out) (by decide)
       ·rw [if_neg c16] at H
        have c16b0 : (t188 == 1) = false := beq_eq_false_iff_ne.mpr c16
        have c16b1 : (t188 != 1) = true := bne_iff_ne.mpr c16
        exact absurd ((Option.some.inj H).trans HRT.out) (by decide)
      ·rw [if_neg c14] at H
       have c14b0 : (t187 == (-1)) = false := beq_eq_false_iff_ne.mpr c14
       have c14b1 : (t187 != (-1)) = true := bne_iff_ne.mpr c14
       exact absurd ((Option.some.inj H).trans HRT.out) (by decide)
     ·replace c12 := Bool.eq_false_iff.mpr c12
      subst c12
      have H1 : (some false) = some r := by rw [if_neg (show ¬ (false = true) by decide)] at H; exact H
      clear H
      have H := H1
      clear H1
      exact absurd ((Option.some.inj H).trans HRT.out) (by decide)
    ·rw [if_neg c10] at H
     have c10b0 : (t185.toList == ([45, 55] : List UInt8)) = false := beq_eq_false_iff_ne.mpr c10
     have c10b1 : (t185.toList != ([45, 55] : List UInt8)) = true := bne_iff_ne.mpr c10
     exact absurd ((Option.some.inj H).trans HRT.out) (by decide)
   ·rw [if_neg c8] at H
    have c8b0 : (t184.toList == ([48, 46, 53] : List UInt8)) = false := beq_eq_false_iff_ne.mpr c8
    have c8b1 : (t184.toList != ([48, 46, 53] : List UInt8)) = true := bne_iff_ne.mpr c8
    exact absurd ((Option.some.inj H).trans HRT.out) (by decide)
  ·rw [if_neg c6] at H
   have c6b0 : (t183.toList == ([45, 55, 46, 53] : List UInt8)) = false := beq_eq_false_iff_ne.mpr c6
   have c6b1 : (t183.toList != ([45, 55, 46, 53] : List UInt8)) = true := bne_iff_ne.mpr c6
   exact absurd ((Option.some.inj H).trans HRT.out) (by decide)
 ·rw [if_neg c4] at H
  have c4b0 : ((wrap64 ((wrap64 (t167 + t174)) + t181)) == 0) = false := beq_eq_false_iff_ne.mpr c4
  have c4b1 : ((wrap64 ((wrap64 (t167 + t174)) + t181)) != 0) = true := bne_iff_ne.mpr c4
  exact absurd ((Option.some.inj H).trans HRT.out) (by decide)

end Go.Proofs.Ytnafjabpkbahdaa.Pr
