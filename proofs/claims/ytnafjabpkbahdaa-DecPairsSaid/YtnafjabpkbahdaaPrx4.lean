-- printed by wip/gprint.py (ours) out of the translation, by the kit's print program with given contracts
import Derived.Test.YtnafjabpkbahdaaPrx0
import Derived.Test.YtnafjabpkbahdaaPrx1
import Derived.Test.YtnafjabpkbahdaaPrx2
namespace Go.Proofs.Ytnafjabpkbahdaa.Pr
open Go.RowKit Go.Proofs.YtnafjabpkbahdaaW.PrintWords Go.Proofs.YtnafjabpkbahdaaW.PrintLast Go.Proofs.YtnafjabpkbahdaaW.PrintMore
attribute [local go_sem] max2_int min2_int max_two min_two max_three min_three max_four min_four   -- for this text's walks alone
set_option linter.unusedVariables false
set_option linter.unusedSimpArgs false

/-! ### dec_Add: function 12 -/
mutual
def dec_Add.j0 : Nat → Bool → List Int → Int → Bool → List Int → Int → Option (Bool × List Int × Int × Int)
 | 0, _, _, _, _, _, _ => none
 | k + 1, x132000, x132001, x132002, x133000, x133001, x133002 => if (x132000 != x133000) = true then (dec_Add.j1 k (-1) x132000 x132001 x132002 x133000 x133001 x133002) else (dec_Add.j1 k 1 x132000 x132001 x132002 x133000 x133001 x133002)
def dec_Add.j1 : Nat → Int → Bool → List Int → Int → Bool → List Int → Int → Option (Bool × List Int × Int × Int)
 | 0, _, _, _, _, _, _, _ => none
 | k + 1, x6, x132000, x132001, x132002, x133000, x133001, x133002 => (dec_span.f x132000 x132001 x132002 x133000 x133001 x133002).bind fun bt135 => (if 0 ≤ (wrap64 ((wrap64 (bt135.1 - bt135.2)) + 2)) then (if (wrap64 ((wrap64 (bt135.1 - bt135.2)) + 2) : Int).toNat ≤ 281474976710656 then (dec_Add.l0 k x6 bt135.1 bt135.2 (List.replicate (wrap64 ((wrap64 (bt135.1 - bt135.2)) + 2) : Int).toNat 0) 0 bt135.2 x132000 x132001 x132002 x133000 x133001 x133002) else (none)) else (none))
def dec_Add.l0 : Nat → Int → Int → Int → List Int → Int → Int → Bool → List Int → Int → Bool → List Int → Int → Option (Bool × List Int × Int × Int)
 | 0, _, _, _, _, _, _, _, _, _, _, _, _ => none
 | k + 1, x6, x7, x8, x9, x10, x11, x132000, x132001, x132002, x133000, x133001, x133002 => if x11 ≤ (wrap64 (x7 + 1)) then ((dec_Dec_at.f x132000 x132001 x132002 x11).bind fun t146 => ((dec_Dec_at.f x133000 x133001 x133002 x11).bind fun t147 => (if (wrap64 ((wrap64 (t146 + (wrap64 (x6 * t147)))) + x10)) < 0 then (if (wrap64 ((wrap64 ((wrap64 (t146 + (wrap64 (x6 * t147)))) + x10)) + 10)) > 9 then (if 0 ≤ (wrap64 ((wrap64 (x7 + 1)) - x11)) then (if (wrap64 ((wrap64 (x7 + 1)) - x11)) < (x9.length : Int) then (dec_Add.l0 k x6 x7 x8 (x9.set ((wrap64 ((wrap64 (x7 + 1)) - x11)) : Int).toNat ((wrap64 ((wrap64 ((wrap64 ((wrap64 (t146 + (wrap64 (x6 * t147)))) + x10)) + 10)) - 10)) % 256)) 1 (wrap64 (x11 + 1)) x132000 x132001 x132002 x133000 x133001 x133002) else (none)) else (none)) else (if 0 ≤ (wrap64 ((wrap64 (x7 + 1)) - x11)) then (if (wrap64 ((wrap64 (x7 + 1)) - x11)) < (x9.length : Int) then (dec_Add.l0 k x6 x7 x8 (x9.set ((wrap64 ((wrap64 (x7 + 1)) - x11)) : Int).toNat ((wrap64 ((wrap64 ((wrap64 (t146 + (wrap64 (x6 * t147)))) + x10)) + 10)) % 256)) (-1) (wrap64 (x11 + 1)) x132000 x132001 x132002 x133000 x133001 x133002) else (none)) else (none))) else (if (wrap64 ((wrap64 (t146 + (wrap64 (x6 * t147)))) + x10)) > 9 then (if 0 ≤ (wrap64 ((wrap64 (x7 + 1)) - x11)) then (if (wrap64 ((wrap64 (x7 + 1)) - x11)) < (x9.length : Int) then (dec_Add.l0 k x6 x7 x8 (x9.set ((wrap64 ((wrap64 (x7 + 1)) - x11)) : Int).toNat ((wrap64 ((wrap64 ((wrap64 (t146 + (wrap64 (x6 * t147)))) + x10)) - 10)) % 256)) 1 (wrap64 (x11 + 1)) x132000 x132001 x132002 x133000 x133001 x133002) else (none)) else (none)) else (if 0 ≤ (wrap64 ((wrap64 (x7 + 1)) - x11)) then (if (wrap64 ((wrap64 (x7 + 1)) - x11)) < (x9.length : Int) then (dec_Add.l0 k x6 x7 x8 (x9.set ((wrap64 ((wrap64 (x7 + 1)) - x11)) : Int).toNat ((wrap64 ((wrap64 (t146 + (wrap64 (x6 * t147)))) + x10)) % 256)) 0 (wrap64 (x11 + 1)) x132000 x132001 x132002 x133000 x133001 x133002) else (none)) else (none)))))) else ((G.dec_canon.f x132000 x9 (wrap64 (-x8))).bind fun bt140 => (if (bt140.2.1.length : Int) > 4096 then (some (false, ([] : List Int), 0, 3)) else (some (bt140.1, bt140.2.1, bt140.2.2, 0))))
end
def dec_Add.f (k : Nat) (a0_0 : Bool) (l0_1 : List Int) (a0_2 : Int) (a1_0 : Bool) (l1_1 : List Int) (a1_2 : Int) : Option (Bool × List Int × Int × Int) := (dec_size.f k a0_0 l0_1 a0_2 a1_0 l1_1 a1_2).bind fun t134 => (if t134 < 0 then (dec_Add.j0 k a1_0 l1_1 a1_2 a0_0 l0_1 a0_2) else (dec_Add.j0 k a0_0 l0_1 a0_2 a1_0 l1_1 a1_2))
theorem dec_Add.mono_l : ∀ k, (∀ y0 y1 y2 y3 y4 y5, LeO (dec_Add.j0 k y0 y1 y2 y3 y4 y5) (dec_Add.j0 (k + 1) y0 y1 y2 y3 y4 y5)) ∧ (∀ y0 y1 y2 y3 y4 y5 y6, LeO (dec_Add.j1 k y0 y1 y2 y3 y4 y5 y6) (dec_Add.j1 (k + 1) y0 y1 y2 y3 y4 y5 y6)) ∧ (∀ y0 y1 y2 y3 y4 y5 y6 y7 y8 y9 y10 y11, LeO (dec_Add.l0 k y0 y1 y2 y3 y4 y5 y6 y7 y8 y9 y10 y11) (dec_Add.l0 (k + 1) y0 y1 y2 y3 y4 y5 y6 y7 y8 y9 y10 y11))
 | 0 => ⟨fun _ _ _ _ _ _ r h => by simp [dec_Add.j0] at h, fun _ _ _ _ _ _ _ r h => by simp [dec_Add.j1] at h, fun _ _ _ _ _ _ _ _ _ _ _ _ r h => by simp [dec_Add.l0] at h⟩
 | k + 1 => by
  obtain ⟨ih0, ih1, ih2⟩ := dec_Add.mono_l k
  refine ⟨?_, ?_, ?_⟩
  ·intro y0 y1 y2 y3 y4 y5
   unfold dec_Add.j0
   repeat' first
   | (with_reducible exact ih0 _ _ _ _ _ _)
   | (with_reducible exact ih1 _ _ _ _ _ _ _)
   | (with_reducible exact ih2 _ _ _ _ _ _ _ _ _ _ _ _)
   | (with_reducible exact dec_size.mono _ _ _ _ _ _ _)
   | (with_reducible exact LeO.refl _)
   | (with_reducible exact LeO.none _)
   | (with_reducible refine LeO.ite ?_ ?_)
   | (with_reducible refine LeO.bind ?_ (fun _ => ?_))
   | exact ih0 _ _ _ _ _ _
   | exact ih1 _ _ _ _ _ _ _
   | exact ih2 _ _ _ _ _ _ _ _ _ _ _ _
   | exact dec_size.mono _ _ _ _ _ _ _
   | exact LeO.none _
   | refine LeO.ite ?_ ?_
   | refine LeO.bind ?_ (fun _ => ?_)
  ·intro y0 y1 y2 y3 y4 y5 y6
   unfold dec_Add.j1
   repeat' first
   | (with_reducible exact ih0 _ _ _ _ _ _)
   | (with_reducible exact ih1 _ _ _ _ _ _ _)
   | (with_reducible exact ih2 _ _ _ _ _ _ _ _ _ _ _ _)
   | (with_reducible exact dec_size.mono _ _ _ _ _ _ _)
   | (with_reducible exact LeO.refl _)
   | (with_reducible exact LeO.none _)
   | (with_reducible refine LeO.ite ?_ ?_)
   | (with_reducible refine LeO.bind ?_ (fun _ => ?_))
   | exact ih0 _ _ _ _ _ _
   | exact ih1 _ _ _ _ _ _ _
   | exact ih2 _ _ _ _ _ _ _ _ _ _ _ _
   | exact dec_size.mono _ _ _ _ _ _ _
   | exact LeO.none _
   | refine LeO.ite ?_ ?_
   | refine LeO.bind ?_ (fun _ => ?_)
  ·intro y0 y1 y2 y3 y4 y5 y6 y7 y8 y9 y10 y11
   unfold dec_Add.l0
   repeat' first
   | (with_reducible exact ih0 _ _ _ _ _ _)
   | (with_reducible exact ih1 _ _ _ _ _ _ _)
   | (with_reducible exact ih2 _ _ _ _ _ _ _ _ _ _ _ _)
   | (with_reducible exact dec_size.mono _ _ _ _ _ _ _)
   | (with_reducible exact LeO.refl _)
   | (with_reducible exact LeO.none _)
   | (with_reducible refine LeO.ite ?_ ?_)
   | (with_reducible refine LeO.bind ?_ (fun _ => ?_))
   | exact ih0 _ _ _ _ _ _
   | exact ih1 _ _ _ _ _ _ _
   | exact ih2 _ _ _ _ _ _ _ _ _ _ _ _
   | exact dec_size.mono _ _ _ _ _ _ _
   | exact LeO.none _
   | refine LeO.ite ?_ ?_
   | refine LeO.bind ?_ (fun _ => ?_)
theorem dec_Add.mono : ∀ a0 a1 a2 a3 a4 a5 k, LeO (dec_Add.f k a0 a1 a2 a3 a4 a5) (dec_Add.f (k + 1) a0 a1 a2 a3 a4 a5) := by
 intro a0 a1 a2 a3 a4 a5 k
 obtain ⟨ih0, ih1, ih2⟩ := dec_Add.mono_l k
 unfold dec_Add.f
 repeat' first
   | (with_reducible exact ih0 _ _ _ _ _ _)
   | (with_reducible exact ih1 _ _ _ _ _ _ _)
   | (with_reducible exact ih2 _ _ _ _ _ _ _ _ _ _ _ _)
   | (with_reducible exact dec_size.mono _ _ _ _ _ _ _)
   | (with_reducible exact LeO.refl _)
   | (with_reducible exact LeO.none _)
   | (with_reducible refine LeO.ite ?_ ?_)
   | (with_reducible refine LeO.bind ?_ (fun _ => ?_))
   | exact ih0 _ _ _ _ _ _
   | exact ih1 _ _ _ _ _ _ _
   | exact ih2 _ _ _ _ _ _ _ _ _ _ _ _
   | exact dec_size.mono _ _ _ _ _ _ _
   | exact LeO.none _
   | refine LeO.ite ?_ ?_
   | refine LeO.bind ?_ (fun _ => ?_)
def dec_Add.T12 : Bool × List (List Nat × List Nat) := (true, [([], []), ([], []), ([0, 1], [0, 1]), ([], []), ([], []), ([], []), ([4, 5, 2], [4, 5]), ([3, 6], [3, 6]), ([2, 7], [2, 7]), ([], []), ([8, 9], [8, 9]), ([10, 6, 0, 1, 2, 3, 4, 5, 6, 7, 8, 9, 10], [10])])
def dec_Add.B12 : List Nat := [0, 0, 3, 0, 0, 0, 55, 127, 255, 0, 1023, 2047]
theorem dec_Add.tab12 : rtab .any (opsOf Try.f12 12) = dec_Add.T12 := by kernel_rfl
theorem dec_Add.bits12 : waitsOk dec_Add.T12.2 dec_Add.B12 = true := by kernel_rfl
set_option maxHeartbeats 8000000 in
set_option maxRecDepth 100000 in
theorem dec_Add.calls (k : Nat) (a0_0 : Bool) (P0_1_ : Nat → Prop) (A0_1 : Option Addr) (c0_1 : Nat) (l0_1 : List Int) (a0_2 : Int) (a1_0 : Bool) (P1_1_ : Nat → Prop) (A1_1 : Option Addr) (c1_1 : Nat) (l1_1 : List Int) (a1_2 : Int) (r1 : Bool) (r2 : List Int) (r3 : Int) (r4 : Int) (w : World) (hs0_1 : Kd.V (Kd.int .u8) 5 w w.heap.size (fun k_ => P0_1_ k_) (.slice A0_1 l0_1.length c0_1) l0_1) (hs1_1 : Kd.V (Kd.int .u8) 5 w w.heap.size (fun k_ => P1_1_ k_) (.slice A1_1 l1_1.length c1_1) l1_1) (h : dec_Add.f k a0_0 l0_1 a0_2 a1_0 l1_1 a1_2 = some (r1, r2, r3, r4)) :
  Calls Try.prog 12 #[.agg #[.bool a0_0, .slice A0_1 l0_1.length c0_1, .int .i64 a0_2], .agg #[.bool a1_0, .slice A1_1 l1_1.length c1_1, .int .i64 a1_2]] w fun e w' => ∃ v1_ : Value, e = .returned (.tuple #[.agg #[.bool r1, v1_, .int .i64 r3], .int .i64 r4]) ∧ Kd.V (Kd.int .u8) 5 w' w.heap.size (fun k_ => ((P0_1_ k_ ∨ P1_1_ k_) ∨ w.heap.size ≤ k_)) v1_ r2 ∧ Below w.heap.size w w' := by
 have hu25 := Try.underlying25
 have HO0_1 := Aside0.mk (show Kd.V (Kd.int .u8) 5 w w.heap.size (fun k_ => ((P0_1_ k_ ∨ P1_1_ k_) ∨ w.heap.size ≤ k_)) (.slice A0_1 l0_1.length c0_1) l0_1 from Kd.V_mono hs0_1 (fun k_ hk => .inl (.inl hk)))
 have HO1_1 := Aside0.mk (show Kd.V (Kd.int .u8) 5 w w.heap.size (fun k_ => ((P0_1_ k_ ∨ P1_1_ k_) ∨ w.heap.size ≤ k_)) (.slice A1_1 l1_1.length c1_1) l1_1 from Kd.V_mono hs1_1 (fun k_ hk => .inl (.inr hk)))
 have HB := Aside0.mk (Below.refl w.heap.size w)
 have H : ((dec_size.f k a0_0 l0_1 a0_2 a1_0 l1_1 a1_2).bind fun t134 => (if t134 < 0 then (dec_Add.j0 k a1_0 l1_1 a1_2 a0_0 l0_1 a0_2) else (dec_Add.j0 k a0_0 l0_1 a0_2 a1_0 l1_1 a1_2))) = some (r1, r2, r3, r4) := h
 clear h
 replace H := Option.bind_eq_some_iff.mp H
 obtain ⟨t134, A30, H⟩ := H
 replace H : (if t134 < 0 then (dec_Add.j0 k a1_0 l1_1 a1_2 a0_0 l0_1 a0_2) else (dec_Add.j0 k a0_0 l0_1 a0_2 a1_0 l1_1 a1_2)) = some (r1, r2, r3, r4) := H
 have A3 := Aside0.mk A30
 clear A30
 have HC4 := Aside0.mk H
 clear H
 go_enter Try.func12, Try.ntmps12
 go_upto_if 17 with (first | ((with_reducible refine gate_dst (N := 2) rfl ?_); refine box_event ?hg (N := 2) ?hd (cs := #[.bool a0_0, .slice A0_1 l0_1.length c0_1, .int .i64 a0_2]) (t := 25) ?hr ?_; (case hd => rfl); (case hg => rfl); (case hr => first | (go_simp; done) | (go_simp; rfl)); intro gb131 hg w5 hbox hb; have n0_ := Aside0.mk (Kd.V_below (Kd.V_elderB (S.v HO0_1.out) gb131 (Nat.le_of_eq hg.symm)) hb); have n1_ := Aside0.mk (Kd.V_below (Kd.V_elderB (S.v HO1_1.out) gb131 (Nat.le_of_eq hg.symm)) hb); have n2_ := Aside0.mk (below_step (by repeat (first | (with_reducible first | exact HB.out | apply below_alloc | apply pw_below_drewN | apply below_drew1) | exact HB.out)) hb); have n3_ := Aside0.mk (hbox); have n4_ := Aside0.mk ((by rw [hg]; exact (below_size (by repeat (first | (with_reducible first | exact HB.out | apply below_alloc | apply pw_below_drewN | apply below_drew1) | exact HB.out))) : w.heap.size ≤ gb131)); have n5_ := Aside0.mk ((by rw [hg]; exact (below_size (by repeat (first | (with_reducible first | exact HB.out | apply below_alloc | apply pw_below_drewN | apply below_drew1) | exact HB.out))) : w.heap.size ≤ gb131)); clear HO0_1; clear HO1_1; clear HB; have HO0_1 := n0_; have HO1_1 := n1_; have HB := n2_; have BK131 := n3_; have GW131 := n4_; have GE131 := n5_; clear n0_ n1_ n2_ n3_ n4_ n5_; clear hb hbox hg) | ((with_reducible refine gate_dst (N := 3) rfl ?_); refine box_event ?hg (N := 3) ?hd (cs := #[.bool a1_0, .slice A1_1 l1_1.length c1_1, .int .i64 a1_2]) (t := 25) ?hr ?_; (case hd => rfl); (case hg => rfl); (case hr => first | (go_simp; done) | (go_simp; rfl)); intro gb132 hg w6 hbox hb; have n0_ := Aside0.mk (Kd.V_below (Kd.V_elderB (S.v HO0_1.out) gb132 (Nat.le_of_eq hg.symm)) hb); have n1_ := Aside0.mk (Kd.V_below (Kd.V_elderB (S.v HO1_1.out) gb132 (Nat.le_of_eq hg.symm)) hb); have n2_ := Aside0.mk (blk_below (g := gb131) (o := .cells #[.bool a0_0, .slice A0_1 l0_1.length c0_1, .int .i64 a0_2] 25 (0, 0)) (S.b BK131.out) hb); have n3_ := Aside0.mk (below_step (by repeat (first | (with_reducible first | exact HB.out | apply below_alloc | apply pw_below_drewN | apply below_drew1 | refine below_set ?_ GE131.out) | exact HB.out)) hb); have n4_ := Aside0.mk (hbox); have n5_ := Aside0.mk ((by rw [hg]; exact (below_size (by repeat (first | (with_reducible first | exact HB.out | apply below_alloc | apply pw_below_drewN | apply below_drew1 | refine below_set ?_ GE131.out) | exact HB.out))) : w.heap.size ≤ gb132)); have n6_ := Aside0.mk ((by rw [hg]; exact (below_size (by repeat (first | (with_reducible first | exact HB.out | apply below_alloc | apply pw_below_drewN | apply below_drew1 | refine below_set ?_ GE131.out) | exact HB.out))) : w.heap.size ≤ gb132)); have n7_ := Aside0.mk ((by rw [hg]; exact Nat.ne_of_lt (blk_lt (g := gb131) (o := .cells #[.bool a0_0, .slice A0_1 l0_1.length c0_1, .int .i64 a0_2] 25 (0, 0)) (S.b BK131.out)) : gb131 ≠ gb132)); have n8_ := Aside0.mk ((by rw [hg]; exact Nat.ne_of_gt (blk_lt (g := gb131) (o := .cells #[.bool a0_0, .slice A0_1 l0_1.length c0_1, .int .i64 a0_2] 25 (0, 0)) (S.b BK131.out)) : gb132 ≠ gb131)); clear HO0_1; clear HO1_1; clear BK131; clear HB; have HO0_1 := n0_; have HO1_1 := n1_; have BK131 := n2_; have HB := n3_; have BK132 := n4_; have GW132 := n5_; have GE132 := n6_; have NB131_132 := n7_; have NB132_131 := n8_; clear n0_ n1_ n2_ n3_ n4_ n5_ n6_ n7_ n8_; clear hb hbox hg) | ((with_reducible refine gate_dst (N := 4) rfl ?_); refine box_event ?hg (N := 4) ?hd (cs := #[.bool false, .slice none 0 0, .int .i64 0]) (t := 25) ?hr ?_; (case hd => rfl); (case hg => rfl); (case hr => first | (go_simp; done) | (go_simp; rfl)); intro gb133 hg w7 hbox hb; have n0_ := Aside0.mk (Kd.V_below (Kd.V_elderB (S.v HO0_1.out) gb133 (Nat.le_of_eq hg.symm)) hb); have n1_ := Aside0.mk (Kd.V_below (Kd.V_elderB (S.v HO1_1.out) gb133 (Nat.le_of_eq hg.symm)) hb); have n2_ := Aside0.mk (blk_below (g := gb131) (o := .cells #[.bool a0_0, .slice A0_1 l0_1.length c0_1, .int .i64 a0_2] 25 (0, 0)) (S.b BK131.out) hb); have n3_ := Aside0.mk (blk_below (g := gb132) (o := .cells #[.bool a1_0, .slice A1_1 l1_1.length c1_1, .int .i64 a1_2] 25 (0, 0)) (S.b BK132.out) hb); have n4_ := Aside0.mk (below_step (by repeat (first | (with_reducible first | exact HB.out | apply below_alloc | apply pw_below_drewN | apply below_drew1 | refine below_set ?_ GE131.out | refine below_set ?_ GE132.out) | exact HB.out)) hb); have n5_ := Aside0.mk (hbox); have n6_ := Aside0.mk ((by rw [hg]; exact (below_size (by repeat (first | (with_reducible first | exact HB.out | apply below_alloc | apply pw_below_drewN | apply below_drew1 | refine below_set ?_ GE131.out | refine below_set ?_ GE132.out) | exact HB.out))) : w.heap.size ≤ gb133)); have n7_ := Aside0.mk ((by rw [hg]; exact (below_size (by repeat (first | (with_reducible first | exact HB.out | apply below_alloc | apply pw_below_drewN | apply below_drew1 | refine below_set ?_ GE131.out | refine below_set ?_ GE132.out) | exact HB.out))) : w.heap.size ≤ gb133)); have n8_ := Aside0.mk ((by rw [hg]; exact Nat.ne_of_lt (blk_lt (g := gb131) (o := .cells #[.bool a0_0, .slice A0_1 l0_1.length c0_1, .int .i64 a0_2] 25 (0, 0)) (S.b BK131.out)) : gb131 ≠ gb133)); have n9_ := Aside0.mk ((by rw [hg]; exact Nat.ne_of_gt (blk_lt (g := gb131) (o := .cells #[.bool a0_0, .slice A0_1 l0_1.length c0_1, .int .i64 a0_2] 25 (0, 0)) (S.b BK131.out)) : gb133 ≠ gb131)); have n10_ := Aside0.mk ((by rw [hg]; exact Nat.ne_of_lt (blk_lt (g := gb132) (o := .cells #[.bool a1_0, .slice A1_1 l1_1.length c1_1, .int .i64 a1_2] 25 (0, 0)) (S.b BK132.out)) : gb132 ≠ gb133)); have n11_ := Aside0.mk ((by rw [hg]; exact Nat.ne_of_gt (blk_lt (g := gb132) (o := .cells #[.bool a1_0, .slice A1_1 l1_1.length c1_1, .int .i64 a1_2] 25 (0, 0)) (S.b BK132.out)) : gb133 ≠ gb132)); clear HO0_1; clear HO1_1; clear BK131; clear BK132; clear HB; have HO0_1 := n0_; have HO1_1 := n1_; have BK131 := n2_; have BK132 := n3_; have HB := n4_; have BK133 := n5_; have GW133 := n6_; have GE133 := n7_; have NB131_133 := n8_; have NB133_131 := n9_; have NB132_133 := n10_; have NB133_132 := n11_; clear n0_ n1_ n2_ n3_ n4_ n5_ n6_ n7_ n8_ n9_ n10_ n11_; clear hb hbox hg; have hnb8 := NB131_132.out; have hnc8 := NB132_131.out; have hnb9 := NB131_133.out; have hnc9 := NB133_131.out; have hcz10_0 : w7.cell? ⟨gb131, 0, none⟩ = some (.bool a0_0) := (blk_cell BK131.out 0).trans rfl; have hcz10_1 : w7.cell? ⟨gb131, 1, none⟩ = some (.slice A0_1 l0_1.length c0_1) := (blk_cell BK131.out 1).trans rfl; have hcz10_2 : w7.cell? ⟨gb131, 2, none⟩ = some (.int .i64 a0_2) := (blk_cell BK131.out 2).trans rfl; have hfz10_0 := blk_frozen BK131.out 0; have hfz10_1 := blk_frozen BK131.out 1; have hfz10_2 := blk_frozen BK131.out 2; have hnb11 := NB132_133.out; have hnc11 := NB133_132.out; have hcz12_0 : w7.cell? ⟨gb132, 0, none⟩ = some (.bool a1_0) := (blk_cell BK132.out 0).trans rfl; have hcz12_1 : w7.cell? ⟨gb132, 1, none⟩ = some (.slice A1_1 l1_1.length c1_1) := (blk_cell BK132.out 1).trans rfl; have hcz12_2 : w7.cell? ⟨gb132, 2, none⟩ = some (.int .i64 a1_2) := (blk_cell BK132.out 2).trans rfl; have hfz12_0 := blk_frozen BK132.out 0; have hfz12_1 := blk_frozen BK132.out 1; have hfz12_2 := blk_frozen BK132.out 2) | ((with_reducible refine gate_callee (f := 23) rfl ?_); refine goesL_ (some 16) rfl rfl Try.func23 (by kernel_rfl) rfl #[.agg #[.bool a0_0, .slice A0_1 l0_1.length c0_1, .int .i64 a0_2], .agg #[.bool a1_0, .slice A1_1 l1_1.length c1_1, .int .i64 a1_2]] rfl (by (try simp only [List.map_toArray, List.map_cons, List.map_nil]); first | done | rfl | (simp only [List.length_drop, List.length_take]; rfl)) ?_; (with_reducible refine (dec_size.calls k a0_0 _ _ l0_1 a0_2 a1_0 _ _ l1_1 a1_2 t134 _ ?side1 ?side2 ?side3 ?side4 A3.out).mono ?_); (case side1 => repeat (first | exact (Kd.V_reads' HO0_1.out).2.2 | (with_reducible refine Kd.C_alloc ?_ _) | (with_reducible refine Kd.C_drewN ?_ _) | (with_reducible refine Kd.C_drew ?_))); (case side2 => exact (Kd.V_reads' HO0_1.out).2.1); (case side3 => repeat (first | exact (Kd.V_reads' HO1_1.out).2.2 | (with_reducible refine Kd.C_alloc ?_ _) | (with_reducible refine Kd.C_drewN ?_ _) | (with_reducible refine Kd.C_drew ?_))); (case side4 => exact (Kd.V_reads' HO1_1.out).2.1); rintro e w13 ⟨rfl, hb⟩; refine ⟨_, rfl, ?_⟩; have n0_ := Aside0.mk (Kd.V_below (S.v HO0_1.out) hb); have n1_ := Aside0.mk (Kd.V_below (S.v HO1_1.out) hb); have n2_ := Aside0.mk (blk_below (g := gb131) (o := .cells #[.bool a0_0, .slice A0_1 l0_1.length c0_1, .int .i64 a0_2] 25 (0, 0)) (S.b BK131.out) hb); have n3_ := Aside0.mk (blk_below (g := gb132) (o := .cells #[.bool a1_0, .slice A1_1 l1_1.length c1_1, .int .i64 a1_2] 25 (0, 0)) (S.b BK132.out) hb); have n4_ := Aside0.mk (blk_below (g := gb133) (o := .cells #[.bool false, .slice none 0 0, .int .i64 0] 25 (0, 0)) (S.b BK133.out) hb); have n5_ := Aside0.mk (below_step (by repeat (first | (with_reducible first | exact HB.out | apply below_alloc | apply pw_below_drewN | apply below_drew1 | refine below_set ?_ GE131.out | refine below_set ?_ GE132.out | refine below_set ?_ GE133.out) | exact HB.out)) hb); clear HO0_1; clear HO1_1; clear BK131; clear BK132; clear BK133; clear HB; have HO0_1 := n0_; have HO1_1 := n1_; have BK131 := n2_; have BK132 := n3_; have BK133 := n4_; have HB := n5_; clear n0_ n1_ n2_ n3_ n4_ n5_; (try clear hb); (try clear hb2); (try clear hk); (try clear hi)))
 (try simp only [Act.put, List.setIfInBounds_toArray, List.set_cons_zero, List.set_cons_succ])
 go_cut [] (fun wc => ∃ (kq : Nat) (x132000_3 : Bool) (x132001_3 : List Int) (x132002_3 : Int) (x133000_3 : Bool) (x133001_3 : List Int) (x133002_3 : Int) (u132001 : Value) (u133001 : Value), Aside0 (dec_Add.j0 kq x132000_3 x132001_3 x132002_3 x133000_3 x133001_3 x133002_3 = some (r1, r2, r3, r4)) ∧ Aside0 (kq ≤ k) ∧ Aside0 (Kd.V (Kd.int .u8) 5 wc w.heap.size (fun k_ => ((P0_1_ k_ ∨ P1_1_ k_) ∨ w.heap.size ≤ k_) ∧ k_ ≠ gb131 ∧ k_ ≠ gb132 ∧ k_ ≠ gb133) u132001 x132001_3) ∧ Aside0 (Kd.V (Kd.int .u8) 5 wc w.heap.size (fun k_ => ((P0_1_ k_ ∨ P1_1_ k_) ∨ w.heap.size ≤ k_) ∧ k_ ≠ gb131 ∧ k_ ≠ gb132 ∧ k_ ≠ gb133) u133001 x133001_3) ∧ Aside0 (wc.heap[gb131]? = some (.cells #[.bool x132000_3, u132001, .int .i64 x132002_3] 25 (0, 0))) ∧ Aside0 (wc.heap[gb132]? = some (.cells #[.bool x133000_3, u133001, .int .i64 x133002_3] 25 (0, 0))) ∧ Aside0 (wc.heap[gb133]? = some (.cells #[.bool false, (.slice none 0 0), .int .i64 0] 25 (0, 0))) ∧ Aside0 (Below w.heap.size w wc))
 case first =>
  have H := HC4.out
  clear HC4
  by_cases c14 : t134 < 0
  ·rw [if_pos c14] at H
   have c14b0 : decide (t134 < 0) = true := decide_eq_true c14
   clear c14
   (first | rw [c14b0] | (simp only [i64_w, i32_w]; rw [c14b0]) | skip)
   have H' := Aside0.mk H
   clear H
   have hnb15 := NB132_131.out
   have hnc15 := NB131_132.out
   have hnb16 := NB132_133.out
   have hnc16 := NB133_132.out
   have hcz17_0 : w13.cell? ⟨gb132, 0, none⟩ = some (.bool a1_0) := (blk_cell BK132.out 0).trans rfl
   have hcz17_1 : w13.cell? ⟨gb132, 1, none⟩ = some (.slice A1_1 l1_1.length c1_1) := (blk_cell BK132.out 1).trans rfl
   have hcz17_2 : w13.cell? ⟨gb132, 2, none⟩ = some (.int .i64 a1_2) := (blk_cell BK132.out 2).trans rfl
   have hfz17_0 := blk_frozen BK132.out 0
   have hfz17_1 := blk_frozen BK132.out 1
   have hfz17_2 := blk_frozen BK132.out 2
   have hnb18 := NB131_133.out
   have hnc18 := NB133_131.out
   have hcz19_0 : w13.cell? ⟨gb131, 0, none⟩ = some (.bool a0_0) := (blk_cell BK131.out 0).trans rfl
   have hcz19_1 : w13.cell? ⟨gb131, 1, none⟩ = some (.slice A0_1 l0_1.length c0_1) := (blk_cell BK131.out 1).trans rfl
   have hcz19_2 : w13.cell? ⟨gb131, 2, none⟩ = some (.int .i64 a0_2) := (blk_cell BK131.out 2).trans rfl
   have hfz19_0 := blk_frozen BK131.out 0
   have hfz19_1 := blk_frozen BK131.out 1
   have hfz19_2 := blk_frozen BK131.out 2
   go_wp2
   go_meet
   case rel => exact ⟨_, (a1_0), (l1_1), (a1_2), (a0_0), (l0_1), (a0_2), (.slice A1_1 l1_1.length c1_1), (.slice A0_1 l0_1.length c0_1), H', ⟨by first | omega | exact Nat.le_refl _⟩, ⟨by (with_reducible repeat (first | apply Kd.V_alloc | apply Kd.V_drewN | apply Kd.V_drew)); exact Kd.V_mono (Kd.V_far (p := ⟨gb132, 2, none⟩) (Kd.V_far (p := ⟨gb132, 1, none⟩) (Kd.V_far (p := ⟨gb132, 0, none⟩) (Kd.V_far (p := ⟨gb131, 2, none⟩) (Kd.V_far (p := ⟨gb131, 1, none⟩) (Kd.V_far (p := ⟨gb131, 0, none⟩) (Kd.V_mono (Kd.V_mono HO1_1.out (fun k_ hk => (⟨hk, hk.1.1.2⟩ : _ ∧ k_ ≠ gb131))) (fun k_ hk => (⟨hk, hk.1.1.2⟩ : _ ∧ k_ ≠ gb132))) (fun _ hk => hk.1.2) (.bool a1_0)) (fun _ hk => hk.1.2) (.slice A1_1 l1_1.length c1_1)) (fun _ hk => hk.1.2) (.int .i64 a1_2)) (fun _ hk => hk.2) (.bool a0_0)) (fun _ hk => hk.2) (.slice A0_1 l0_1.length c0_1)) (fun _ hk => hk.2) (.int .i64 a0_2)) (fun _ hk => ⟨hk.1.1.1.1.1, ⟨hk.1.1.1.1.2, ⟨hk.1.1.1.2, hk.1.1.2⟩⟩⟩)⟩, ⟨by (with_reducible repeat (first | apply Kd.V_alloc | apply Kd.V_drewN | apply Kd.V_drew)); exact Kd.V_mono (Kd.V_far (p := ⟨gb132, 2, none⟩) (Kd.V_far (p := ⟨gb132, 1, none⟩) (Kd.V_far (p := ⟨gb132, 0, none⟩) (Kd.V_far (p := ⟨gb131, 2, none⟩) (Kd.V_far (p := ⟨gb131, 1, none⟩) (Kd.V_far (p := ⟨gb131, 0, none⟩) (Kd.V_mono (Kd.V_mono HO0_1.out (fun k_ hk => (⟨hk, hk.1.1.2⟩ : _ ∧ k_ ≠ gb131))) (fun k_ hk => (⟨hk, hk.1.1.2⟩ : _ ∧ k_ ≠ gb132))) (fun _ hk => hk.1.2) (.bool a1_0)) (fun _ hk => hk.1.2) (.slice A1_1 l1_1.length c1_1)) (fun _ hk => hk.1.2) (.int .i64 a1_2)) (fun _ hk => hk.2) (.bool a0_0)) (fun _ hk => hk.2) (.slice A0_1 l0_1.length c0_1)) (fun _ hk => hk.2) (.int .i64 a0_2)) (fun _ hk => ⟨hk.1.1.1.1.1, ⟨hk.1.1.1.1.2, ⟨hk.1.1.1.2, hk.1.1.2⟩⟩⟩)⟩, ⟨by (with_reducible repeat (first | refine blk_drewN ?_ _ | refine blk_drew ?_ | refine blk_alloc ?_ _)); refine blk_far ?_ NB131_132.out _; (with_reducible repeat (first | refine blk_drewN ?_ _ | refine blk_drew ?_ | refine blk_alloc ?_ _)); refine blk_far ?_ NB131_132.out _; (with_reducible repeat (first | refine blk_drewN ?_ _ | refine blk_drew ?_ | refine blk_alloc ?_ _)); refine blk_far ?_ NB131_132.out _; (with_reducible repeat (first | refine blk_drewN ?_ _ | refine blk_drew ?_ | refine blk_alloc ?_ _)); refine blk_put (cs := #[.bool a1_0, .slice A1_1 l1_1.length c1_1, .int .i64 a0_2]) ?_ 2 _ rfl; (with_reducible repeat (first | refine blk_drewN ?_ _ | refine blk_drew ?_ | refine blk_alloc ?_ _)); refine blk_put (cs := #[.bool a1_0, .slice A0_1 l0_1.length c0_1, .int .i64 a0_2]) ?_ 1 _ rfl; (with_reducible repeat (first | refine blk_drewN ?_ _ | refine blk_drew ?_ | refine blk_alloc ?_ _)); refine blk_put (cs := #[.bool a0_0, .slice A0_1 l0_1.length c0_1, .int .i64 a0_2]) ?_ 0 _ rfl; (with_reducible repeat (first | refine blk_drewN ?_ _ | refine blk_drew ?_ | refine blk_alloc ?_ _)); exact BK131.out⟩, ⟨by (with_reducible repeat (first | refine blk_drewN ?_ _ | refine blk_drew ?_ | refine blk_alloc ?_ _)); refine blk_put (cs := #[.bool a0_0, .slice A0_1 l0_1.length c0_1, .int .i64 a1_2]) ?_ 2 _ rfl; (with_reducible repeat (first | refine blk_drewN ?_ _ | refine blk_drew ?_ | refine blk_alloc ?_ _)); refine blk_put (cs := #[.bool a0_0, .slice A1_1 l1_1.length c1_1, .int .i64 a1_2]) ?_ 1 _ rfl; (with_reducible repeat (first | refine blk_drewN ?_ _ | refine blk_drew ?_ | refine blk_alloc ?_ _)); refine blk_put (cs := #[.bool a1_0, .slice A1_1 l1_1.length c1_1, .int .i64 a1_2]) ?_ 0 _ rfl; (with_reducible repeat (first | refine blk_drewN ?_ _ | refine blk_drew ?_ | refine blk_alloc ?_ _)); refine blk_far ?_ NB132_131.out _; (with_reducible repeat (first | refine blk_drewN ?_ _ | refine blk_drew ?_ | refine blk_alloc ?_ _)); refine blk_far ?_ NB132_131.out _; (with_reducible repeat (first | refine blk_drewN ?_ _ | refine blk_drew ?_ | refine blk_alloc ?_ _)); refine blk_far ?_ NB132_131.out _; (with_reducible repeat (first | refine blk_drewN ?_ _ | refine blk_drew ?_ | refine blk_alloc ?_ _)); exact BK132.out⟩, ⟨by (with_reducible repeat (first | refine blk_drewN ?_ _ | refine blk_drew ?_ | refine blk_alloc ?_ _)); refine blk_far ?_ NB133_132.out _; (with_reducible repeat (first | refine blk_drewN ?_ _ | refine blk_drew ?_ | refine blk_alloc ?_ _)); refine blk_far ?_ NB133_132.out _; (with_reducible repeat (first | refine blk_drewN ?_ _ | refine blk_drew ?_ | refine blk_alloc ?_ _)); refine blk_far ?_ NB133_132.out _; (with_reducible repeat (first | refine blk_drewN ?_ _ | refine blk_drew ?_ | refine blk_alloc ?_ _)); refine blk_far ?_ NB133_131.out _; (with_reducible repeat (first | refine blk_drewN ?_ _ | refine blk_drew ?_ | refine blk_alloc ?_ _)); refine blk_far ?_ NB133_131.out _; (with_reducible repeat (first | refine blk_drewN ?_ _ | refine blk_drew ?_ | refine blk_alloc ?_ _)); refine blk_far ?_ NB133_131.out _; (with_reducible repeat (first | refine blk_drewN ?_ _ | refine blk_drew ?_ | refine blk_alloc ?_ _)); exact BK133.out⟩, ⟨by repeat (first | (with_reducible first | exact HB.out | apply below_alloc | apply pw_below_drewN | apply below_drew1 | refine below_set ?_ GE131.out | refine below_set ?_ GE132.out | refine below_set ?_ GE133.out) | exact HB.out)⟩⟩
  ·rw [if_neg c14] at H
   have c14b0 : decide (t134 < 0) = false := decide_eq_false c14
   clear c14
   (first | rw [c14b0] | (simp only [i64_w, i32_w]; rw [c14b0]) | skip)
   have H' := Aside0.mk H
   clear H
   go_wp2
   go_meet
   case rel => exact ⟨_, (a0_0), (l0_1), (a0_2), (a1_0), (l1_1), (a1_2), (.slice A0_1 l0_1.length c0_1), (.slice A1_1 l1_1.length c1_1), H', ⟨by first | omega | exact Nat.le_refl _⟩, ⟨by (with_reducible repeat (first | apply Kd.V_alloc | apply Kd.V_drewN | apply Kd.V_drew)); exact Kd.V_mono HO0_1.out (fun _ hk => ⟨hk.1.1.1, ⟨hk.1.1.2, ⟨hk.1.2, hk.2⟩⟩⟩)⟩, ⟨by (with_reducible repeat (first | apply Kd.V_alloc | apply Kd.V_drewN | apply Kd.V_drew)); exact Kd.V_mono HO1_1.out (fun _ hk => ⟨hk.1.1.1, ⟨hk.1.1.2, ⟨hk.1.2, hk.2⟩⟩⟩)⟩, ⟨S.b BK131.out⟩, ⟨S.b BK132.out⟩, ⟨S.b BK133.out⟩, ⟨by repeat (first | (with_reducible first | exact HB.out | apply below_alloc | apply pw_below_drewN | apply below_drew1 | refine below_set ?_ GE131.out | refine below_set ?_ GE132.out | refine below_set ?_ GE133.out) | exact HB.out)⟩⟩
 case rest =>
  clear HC4
  try clear c1
  try clear c2
  try clear p2
  try clear c8
  try clear c9
  try clear c11
  try clear c12
  try clear c14
  try clear c14b0
  try clear c15
  try clear c16
  try clear c18
  try clear hcz10_0
  try clear hcz10_1
  try clear hcz10_2
  try clear hcz12_0
  try clear hcz12_1
  try clear hcz12_2
  try clear hcz17_0
  try clear hcz17_1
  try clear hcz17_2
  try clear hcz19_0
  try clear hcz19_1
  try clear hcz19_2
  try clear hfz10_0
  try clear hfz10_1
  try clear hfz10_2
  try clear hfz12_0
  try clear hfz12_1
  try clear hfz12_2
  try clear hfz17_0
  try clear hfz17_1
  try clear hfz17_2
  try clear hfz19_0
  try clear hfz19_1
  try clear hfz19_2
  obtain ⟨kq, x132000_3, x132001_3, x132002_3, x133000_3, x133001_3, x133002_3, u132001, u133001, HA, HJ3, HO_132001, HO_133001, BK131, BK132, BK133, HB⟩ := hcut
  cases kq with
  | zero => exact absurd HA.out (by simp [dec_Add.j0])
  | succ kj3 =>
   have H := HA.out
   clear HA
   simp only [dec_Add.j0] at H
   have HC20 := Aside0.mk H
   clear H
   have hnb21 := NB131_132.out
   have hnc21 := NB132_131.out
   have hnb22 := NB131_133.out
   have hnc22 := NB133_131.out
   have hcz23_0 : wc.cell? ⟨gb131, 0, none⟩ = some (.bool x132000_3) := (blk_cell BK131.out 0).trans rfl
   have hcz23_1 : wc.cell? ⟨gb131, 1, none⟩ = some (u132001) := (blk_cell BK131.out 1).trans rfl
   have hcz23_2 : wc.cell? ⟨gb131, 2, none⟩ = some (.int .i64 x132002_3) := (blk_cell BK131.out 2).trans rfl
   have hfz23_0 := blk_frozen BK131.out 0
   have hfz23_1 := blk_frozen BK131.out 1
   have hfz23_2 := blk_frozen BK131.out 2
   have hnb24 := NB132_133.out
   have hnc24 := NB133_132.out
   have hcz25_0 : wc.cell? ⟨gb132, 0, none⟩ = some (.bool x133000_3) := (blk_cell BK132.out 0).trans rfl
   have hcz25_1 : wc.cell? ⟨gb132, 1, none⟩ = some (u133001) := (blk_cell BK132.out 1).trans rfl
   have hcz25_2 : wc.cell? ⟨gb132, 2, none⟩ = some (.int .i64 x133002_3) := (blk_cell BK132.out 2).trans rfl
   have hfz25_0 := blk_frozen BK132.out 0
   have hfz25_1 := blk_frozen BK132.out 1
   have hfz25_2 := blk_frozen BK132.out 2
   go_upto_if 24 with (fail)
   go_cut [6] (fun v6 wc => ∃ (kq : Nat) (x6_19 : Int), v6 = .int .i64 x6_19 ∧ Aside0 (dec_Add.j1 kq x6_19 x132000_3 x132001_3 x132002_3 x133000_3 x133001_3 x133002_3 = some (r1, r2, r3, r4)) ∧ Aside0 (kq ≤ kj3) ∧ Aside0 (Kd.V (Kd.int .u8) 5 wc w.heap.size (fun k_ => ((P0_1_ k_ ∨ P1_1_ k_) ∨ w.heap.size ≤ k_) ∧ k_ ≠ gb131 ∧ k_ ≠ gb132 ∧ k_ ≠ gb133) u132001 x132001_3) ∧ Aside0 (Kd.V (Kd.int .u8) 5 wc w.heap.size (fun k_ => ((P0_1_ k_ ∨ P1_1_ k_) ∨ w.heap.size ≤ k_) ∧ k_ ≠ gb131 ∧ k_ ≠ gb132 ∧ k_ ≠ gb133) u133001 x133001_3) ∧ Aside0 (wc.heap[gb131]? = some (.cells #[.bool x132000_3, u132001, .int .i64 x132002_3] 25 (0, 0))) ∧ Aside0 (wc.heap[gb132]? = some (.cells #[.bool x133000_3, u133001, .int .i64 x133002_3] 25 (0, 0))) ∧ Aside0 (wc.heap[gb133]? = some (.cells #[.bool false, (.slice none 0 0), .int .i64 0] 25 (0, 0))) ∧ Aside0 (Below w.heap.size w wc))
   case first =>
    have H := HC20.out
    clear HC20
    by_cases c26 : (x132000_3 != x133000_3) = true
    ·rw [if_pos c26] at H
     have c26b0 : (x132000_3 != x133000_3) = true := c26
     (try (have c26b1 : decide (x132000_3 = x133000_3) = false := by simpa using c26))
     (try (have c26b2 : (x132000_3 == x133000_3) = false := by simpa using c26))
     (try (have c26b3 : ¬ (x132000_3 = x133000_3) := by simpa using c26))
     clear c26
     (first | rw [c26b0] | (simp only [i64_w, i32_w]; rw [c26b0]) | skip)
     have H' := Aside0.mk H
     clear H
     go_wp2
     any_goals (first | (exfalso; rename_i hx_; rw [c26b2] at hx_; exact absurd hx_ (by decide)) | skip)
     go_meet
     case rel => exact ⟨_, ((-1)), (by first | rfl | (simp; done) | (simp [*]; done)), H', ⟨by have := HJ3.out; first | omega | exact Nat.le_refl _⟩, ⟨S.v HO_132001.out⟩, ⟨S.v HO_133001.out⟩, ⟨S.b BK131.out⟩, ⟨S.b BK132.out⟩, ⟨S.b BK133.out⟩, ⟨by repeat (first | (with_reducible first | exact HB.out | apply below_alloc | apply pw_below_drewN | apply below_drew1 | refine below_set ?_ GE131.out | refine below_set ?_ GE132.out | refine below_set ?_ GE133.out) | exact HB.out)⟩⟩
    ·rw [if_neg c26] at H
     have c26b0 : (x132000_3 != x133000_3) = false := by simpa using c26
     (try (have c26b1 : decide (x132000_3 = x133000_3) = true := by simpa using c26))
     (try (have c26b2 : (x132000_3 == x133000_3) = true := by simpa using c26))
     clear c26
     (first | rw [c26b0] | (simp only [i64_w, i32_w]; rw [c26b0]) | skip)
     have H' := Aside0.mk H
     clear H
     go_wp2
     any_goals (first | (exfalso; rename_i hx_; rw [c26b2] at hx_; exact absurd hx_ (by decide)) | skip)
     go_meet
     case rel => exact ⟨_, (1), (by first | rfl | (simp; done) | (simp [*]; done)), H', ⟨by have := HJ3.out; first | omega | exact Nat.le_refl _⟩, ⟨S.v HO_132001.out⟩, ⟨S.v HO_133001.out⟩, ⟨S.b BK131.out⟩, ⟨S.b BK132.out⟩, ⟨S.b BK133.out⟩, ⟨by repeat (first | (with_reducible first | exact HB.out | apply below_alloc | apply pw_below_drewN | apply below_drew1 | refine below_set ?_ GE131.out | refine below_set ?_ GE132.out | refine below_set ?_ GE133.out) | exact HB.out)⟩⟩
   case rest =>
    clear HC20
    try clear c1
    try clear c2
    try clear p2
    try clear c8
    try clear c9
    try clear c11
    try clear c12
    try clear c14
    try clear c14b0
    try clear c15
    try clear c16
    try clear c18
    try clear c21
    try clear c22
    try clear c23
    try clear c24
    try clear c26
    try clear c26b0
    try clear c26b1
    try clear c26b2
    try clear hcz10_0
    try clear hcz10_1
    try clear hcz10_2
    try clear hcz12_0
    try clear hcz12_1
    try clear hcz12_2
    try clear hcz17_0
    try clear hcz17_1
    try clear hcz17_2
    try clear hcz19_0
    try clear hcz19_1
    try clear hcz19_2
    try clear hcz23_0
    try clear hcz23_1
    try clear hcz23_2
    try clear hcz25_0
    try clear hcz25_1
    try clear hcz25_2
    try clear hfz10_0
    try clear hfz10_1
    try clear hfz10_2
    try clear hfz12_0
    try clear hfz12_1
    try clear hfz12_2
    try clear hfz17_0
    try clear hfz17_1
    try clear hfz17_2
    try clear hfz19_0
    try clear hfz19_1
    try clear hfz19_2
    try clear hfz23_0
    try clear hfz23_1
    try clear hfz23_2
    try clear hfz25_0
    try clear hfz25_1
    try clear hfz25_2
    try clear p2
    obtain ⟨kq, x6_19, rfl, HA, HJ19, HO_132001, HO_133001, BK131, BK132, BK133, HB⟩ := hcut
    cases kq with
    | zero => exact absurd HA.out (by simp [dec_Add.j1])
    | succ kj19 =>
     have H := HA.out
     clear HA
     simp only [dec_Add.j1] at H
     replace H := Option.bind_eq_some_iff.mp H
     obtain ⟨⟨t135, t136⟩, A270, H⟩ := H
     replace H : (if 0 ≤ (wrap64 ((wrap64 (t135 - t136)) + 2)) then (if (wrap64 ((wrap64 (t135 - t136)) + 2) : Int).toNat ≤ 281474976710656 then (dec_Add.l0 kj19 x6_19 t135 t136 (List.replicate (wrap64 ((wrap64 (t135 - t136)) + 2) : Int).toNat 0) 0 t136 x132000_3 x132001_3 x132002_3 x133000_3 x133001_3 x133002_3) else (none)) else (none)) = some (r1, r2, r3, r4) := H
     have A27 := Aside0.mk A270
     clear A270
     obtain ⟨ji28, hji28⟩ : ∃ j_ : Int, (wrap64 ((wrap64 (t135 - t136)) + 2)) = j_ := ⟨_, rfl⟩
     replace H : (if 0 ≤ (ji28) then (if (ji28 : Int).toNat ≤ 281474976710656 then (dec_Add.l0 kj19 x6_19 t135 t136 (List.replicate (ji28 : Int).toNat 0) 0 t136 x132000_3 x132001_3 x132002_3 x133000_3 x133001_3 x133002_3) else (none)) else (none)) = some (r1, r2, r3, r4) := by first | (rw [hji28] at H; exact H) | (simp only [hji28] at H ⊢; exact H)
     (try rw [hji28] at A27)
     have hji28w : (IntKind.i64.wrap ((wrap64 (t135 - t136)) + 2)) = ji28 := (i64_w _).trans hji28
     by_cases c29 : 0 ≤ (ji28)
     ·rw [if_pos c29] at H
      have c29b0 := eq_true c29
      have c29b1 : decide (0 ≤ (ji28)) = true := decide_eq_true c29
      clear c29
      by_cases c30 : (ji28 : Int).toNat ≤ 281474976710656
      ·rw [if_pos c30] at H
       have c30b0 := eq_true c30
       have c30b1 : decide ((ji28 : Int).toNat ≤ 281474976710656) = true := decide_eq_true c30
       clear c30
       obtain ⟨y137, hy137⟩ : ∃ y_ : List Int, y_ = (List.replicate (ji28 : Int).toNat 0) := ⟨_, rfl⟩
       replace H : (dec_Add.l0 kj19 x6_19 t135 t136 y137 0 t136 x132000_3 x132001_3 x132002_3 x133000_3 x133001_3 x133002_3) = some (r1, r2, r3, r4) := by first | (rw [hy137]; with_reducible exact H) | (have H2_ := (Option.bind_some _ _).symm.trans H; rw [hy137]; with_reducible exact H2_) | (have H2_ := (Option.bind_some _ _).symm.trans H; with_reducible exact H2_) | with_reducible exact H | (rw [hy137]; exact H) | exact H
       have Ny137 := Aside0.mk hy137
       clear hy137
       have H' := Aside0.mk H
       clear H
       have hnb31 := NB131_132.out
       have hnc31 := NB132_131.out
       have hnb32 := NB131_133.out
       have hnc32 := NB133_131.out
       have hcz33_0 : wc.cell? ⟨gb131, 0, none⟩ = some (.bool x132000_3) := (blk_cell BK131.out 0).trans rfl
       have hcz33_1 : wc.cell? ⟨gb131, 1, none⟩ = some (u132001) := (blk_cell BK131.out 1).trans rfl
       have hcz33_2 : wc.cell? ⟨gb131, 2, none⟩ = some (.int .i64 x132002_3) := (blk_cell BK131.out 2).trans rfl
       have hfz33_0 := blk_frozen BK131.out 0
       have hfz33_1 := blk_frozen BK131.out 1
       have hfz33_2 := blk_frozen BK131.out 2
       have hnb34 := NB132_133.out
       have hnc34 := NB133_132.out
       have hcz35_0 : wc.cell? ⟨gb132, 0, none⟩ = some (.bool x133000_3) := (blk_cell BK132.out 0).trans rfl
       have hcz35_1 : wc.cell? ⟨gb132, 1, none⟩ = some (u133001) := (blk_cell BK132.out 1).trans rfl
       have hcz35_2 : wc.cell? ⟨gb132, 2, none⟩ = some (.int .i64 x133002_3) := (blk_cell BK132.out 2).trans rfl
       have hfz35_0 := blk_frozen BK132.out 0
       have hfz35_1 := blk_frozen BK132.out 1
       have hfz35_2 := blk_frozen BK132.out 2
       obtain ⟨Ao36, co36, eo36⟩ := Kd.V_slice HO_132001.out
       subst eo36
       obtain ⟨Ao37, co37, eo37⟩ := Kd.V_slice HO_133001.out
       subst eo37
       go_wp2_with (first | ((with_reducible refine gate_callee (f := 26) rfl ?_); refine goesL_ (some 28) rfl rfl Try.func26 (by kernel_rfl) rfl #[.agg #[.bool x132000_3, .slice Ao36 x132001_3.length co36, .int .i64 x132002_3], .agg #[.bool x133000_3, .slice Ao37 x133001_3.length co37, .int .i64 x133002_3]] rfl (by (try simp only [List.map_toArray, List.map_cons, List.map_nil]); first | done | rfl | (simp only [List.length_drop, List.length_take]; rfl)) ?_; (with_reducible refine (dec_span.calls x132000_3 _ _ x132001_3 x132002_3 x133000_3 _ _ x133001_3 x133002_3 t135 t136 _ ?side1 ?side2 ?side3 ?side4 A27.out).mono ?_); (case side1 => repeat (first | exact (Kd.V_reads' HO_132001.out).2.2 | (with_reducible refine Kd.C_alloc ?_ _) | (with_reducible refine Kd.C_drewN ?_ _) | (with_reducible refine Kd.C_drew ?_))); (case side2 => exact (Kd.V_reads' HO_132001.out).2.1); (case side3 => repeat (first | exact (Kd.V_reads' HO_133001.out).2.2 | (with_reducible refine Kd.C_alloc ?_ _) | (with_reducible refine Kd.C_drewN ?_ _) | (with_reducible refine Kd.C_drew ?_))); (case side4 => exact (Kd.V_reads' HO_133001.out).2.1); rintro e w38 ⟨rfl, hb⟩; refine ⟨_, rfl, ?_⟩; have n0_ := Aside0.mk (Kd.V_below (S.v HO_132001.out) hb); have n1_ := Aside0.mk (Kd.V_below (S.v HO_133001.out) hb); have n2_ := Aside0.mk (blk_below (g := gb131) (o := .cells #[.bool x132000_3, .slice Ao36 x132001_3.length co36, .int .i64 x132002_3] 25 (0, 0)) (S.b BK131.out) hb); have n3_ := Aside0.mk (blk_below (g := gb132) (o := .cells #[.bool x133000_3, .slice Ao37 x133001_3.length co37, .int .i64 x133002_3] 25 (0, 0)) (S.b BK132.out) hb); have n4_ := Aside0.mk (blk_below (g := gb133) (o := .cells #[.bool false, .slice none 0 0, .int .i64 0] 25 (0, 0)) (S.b BK133.out) hb); have n5_ := Aside0.mk (below_step (by repeat (first | (with_reducible first | exact HB.out | apply below_alloc | apply pw_below_drewN | apply below_drew1 | refine below_set ?_ GE131.out | refine below_set ?_ GE132.out | refine below_set ?_ GE133.out) | exact HB.out)) hb); clear HO_132001; clear HO_133001; clear BK131; clear BK132; clear BK133; clear HB; have HO_132001 := n0_; have HO_133001 := n1_; have BK131 := n2_; have BK132 := n3_; have BK133 := n4_; have HB := n5_; clear n0_ n1_ n2_ n3_ n4_ n5_; (try clear hb); (try clear hb2); (try clear hk); (try clear hi)) | ((with_reducible refine gate_dst (N := 35) rfl ?_); refine Kd.R_make (Kd.int .u8) _ 5 rfl (N := 35) rfl 22 _ _ rfl ji28 rfl rfl Try.underlying22 (.int .u8 0) 1 info5 rfl (by decide) (by omega) 0 (ok := fun _ => True) (okp := fun _ => True) rfl (fun _ hk => hk) trivial (of_decide_eq_true (by first | (with_reducible assumption) | assumption)) (Nat.le_trans (Nat.mul_le_mul_right _ (of_decide_eq_true (by first | (with_reducible assumption) | assumption) : ji28.toNat ≤ 281474976710656)) (by omega)) (Below.refl _ _) (Nat.le_refl _) ?_; intro v138 w39 ho40 hb hg_ hnew_; clear hg_ hnew_; (first | rw [← Ny137.out] at ho40 | (simp only [Int.reduceToNat] at ho40; rw [← Ny137.out] at ho40)); have n0_ := Aside0.mk (Kd.V_elder' (S.v HO_132001.out) (Kd.R_base ho40) hb); have n1_ := Aside0.mk (Kd.V_elder' (S.v HO_133001.out) (Kd.R_base ho40) hb); have n2_ := Aside0.mk (Kd.R_lower (Kd.R_newM (M := fun k_ => (w.heap.size ≤ k_)) ho40 (below_size (by repeat (first | (with_reducible first | exact HB.out | apply below_alloc | apply pw_below_drewN | apply below_drew1 | refine below_set ?_ GE131.out | refine below_set ?_ GE132.out | refine below_set ?_ GE133.out) | exact HB.out))) (fun k_ h_ => h_)) (below_size (by repeat (first | (with_reducible first | exact HB.out | apply below_alloc | apply pw_below_drewN | apply below_drew1 | refine below_set ?_ GE131.out | refine below_set ?_ GE132.out | refine below_set ?_ GE133.out) | exact HB.out)))); have n3_ := Aside0.mk (blk_below (g := gb131) (o := .cells #[.bool x132000_3, .slice Ao36 x132001_3.length co36, .int .i64 x132002_3] 25 (0, 0)) (S.b BK131.out) hb); have n4_ := Aside0.mk (blk_below (g := gb132) (o := .cells #[.bool x133000_3, .slice Ao37 x133001_3.length co37, .int .i64 x133002_3] 25 (0, 0)) (S.b BK132.out) hb); have n5_ := Aside0.mk (blk_below (g := gb133) (o := .cells #[.bool false, .slice none 0 0, .int .i64 0] 25 (0, 0)) (S.b BK133.out) hb); have n6_ := Aside0.mk (below_step (by repeat (first | (with_reducible first | exact HB.out | apply below_alloc | apply pw_below_drewN | apply below_drew1 | refine below_set ?_ GE131.out | refine below_set ?_ GE132.out | refine below_set ?_ GE133.out) | exact HB.out)) hb); clear HO_132001; clear HO_133001; clear BK131; clear BK132; clear BK133; clear HB; have HO_132001 := n0_; have HO_133001 := n1_; have HO139 := n2_; have BK131 := n3_; have BK132 := n4_; have BK133 := n5_; have HB := n6_; clear n0_ n1_ n2_ n3_ n4_ n5_ n6_; clear hb ho40))
       go_loopg [10, 11] kj19 (fun kq v10 v11 w' => ∃ (x9_3 : List Int) (x10_3 : Int) (x11_3 : Int), v10 = .int .i64 x10_3 ∧ v11 = .int .i64 x11_3 ∧ Aside0 (dec_Add.l0 kq x6_19 t135 t136 x9_3 x10_3 x11_3 x132000_3 x132001_3 x132002_3 x133000_3 x133001_3 x133002_3 = some (r1, r2, r3, r4)) ∧ Aside0 (kq ≤ kj19) ∧ Aside0 (Kd.R (Kd.int .u8) 5 w' w.heap.size (fun k_ => (w.heap.size ≤ k_)) v138 x9_3) ∧ Aside0 (Kd.V (Kd.int .u8) 5 w' w.heap.size (fun k_ => ((P0_1_ k_ ∨ P1_1_ k_) ∨ w.heap.size ≤ k_) ∧ some k_ ≠ (v138 : Value).ownBlock ∧ k_ ≠ gb131 ∧ k_ ≠ gb132 ∧ k_ ≠ gb133) (.slice Ao36 x132001_3.length co36) x132001_3) ∧ Aside0 (Kd.V (Kd.int .u8) 5 w' w.heap.size (fun k_ => ((P0_1_ k_ ∨ P1_1_ k_) ∨ w.heap.size ≤ k_) ∧ some k_ ≠ (v138 : Value).ownBlock ∧ k_ ≠ gb131 ∧ k_ ≠ gb132 ∧ k_ ≠ gb133) (.slice Ao37 x133001_3.length co37) x133001_3) ∧ Aside0 (w'.heap[gb131]? = some (.cells #[.bool x132000_3, (.slice Ao36 x132001_3.length co36), .int .i64 x132002_3] 25 (0, 0))) ∧ Aside0 (w'.heap[gb132]? = some (.cells #[.bool x133000_3, (.slice Ao37 x133001_3.length co37), .int .i64 x133002_3] 25 (0, 0))) ∧ Aside0 (w'.heap[gb133]? = some (.cells #[.bool false, (.slice none 0 0), .int .i64 0] 25 (0, 0))) ∧ Aside0 (Below w.heap.size w w'))
       case atStart => exact ⟨(y137), (0), (t136), (by first | rfl | (simp; done) | (simp [*]; done)), (by first | rfl | (simp; done) | (simp [*]; done)), H', ⟨Nat.le_refl _⟩, ⟨by (with_reducible repeat (first | apply Kd.R_alloc | apply Kd.R_drewN | apply Kd.R_drew)); exact Kd.R_mono HO139.out (fun _ hk => hk.1)⟩, ⟨by (with_reducible repeat (first | apply Kd.V_alloc | apply Kd.V_drewN | apply Kd.V_drew)); exact Kd.V_mono HO_132001.out (fun _ hk => ⟨hk.1.1, ⟨hk.2, ⟨hk.1.2.1, ⟨hk.1.2.2.1, hk.1.2.2.2⟩⟩⟩⟩)⟩, ⟨by (with_reducible repeat (first | apply Kd.V_alloc | apply Kd.V_drewN | apply Kd.V_drew)); exact Kd.V_mono HO_133001.out (fun _ hk => ⟨hk.1.1, ⟨hk.2, ⟨hk.1.2.1, ⟨hk.1.2.2.1, hk.1.2.2.2⟩⟩⟩⟩)⟩, ⟨S.b BK131.out⟩, ⟨S.b BK132.out⟩, ⟨S.b BK133.out⟩, ⟨by repeat (first | (with_reducible first | exact HB.out | apply below_alloc | apply pw_below_drewN | apply below_drew1 | refine below_set ?_ GE131.out | refine below_set ?_ GE132.out | refine below_set ?_ GE133.out) | exact HB.out)⟩⟩
       case round =>
        clear H'
        try clear c1
        try clear c2
        try clear p2
        try clear c3
        try clear p6
        try clear c8
        try clear c9
        try clear c11
        try clear c12
        try clear c14
        try clear c14b0
        try clear c15
        try clear c16
        try clear c18
        try clear c21
        try clear c22
        try clear c23
        try clear c24
        try clear c26
        try clear c26b0
        try clear c26b1
        try clear c26b2
        try clear c29
        try clear c29b0
        try clear c29b1
        try clear c30
        try clear c30b0
        try clear c30b1
        try clear c31
        try clear c32
        try clear c34
        try clear hcz10_0
        try clear hcz10_1
        try clear hcz10_2
        try clear hcz12_0
        try clear hcz12_1
        try clear hcz12_2
        try clear hcz17_0
        try clear hcz17_1
        try clear hcz17_2
        try clear hcz19_0
        try clear hcz19_1
        try clear hcz19_2
        try clear hcz23_0
        try clear hcz23_1
        try clear hcz23_2
        try clear hcz25_0
        try clear hcz25_1
        try clear hcz25_2
        try clear hcz33_0
        try clear hcz33_1
        try clear hcz33_2
        try clear hcz35_0
        try clear hcz35_1
        try clear hcz35_2
        try clear hfz10_0
        try clear hfz10_1
        try clear hfz10_2
        try clear hfz12_0
        try clear hfz12_1
        try clear hfz12_2
        try clear hfz17_0
        try clear hfz17_1
        try clear hfz17_2
        try clear hfz19_0
        try clear hfz19_1
        try clear hfz19_2
        try clear hfz23_0
        try clear hfz23_1
        try clear hfz23_2
        try clear hfz25_0
        try clear hfz25_1
        try clear hfz25_2
        try clear hfz33_0
        try clear hfz33_1
        try clear hfz33_2
        try clear hfz35_0
        try clear hfz35_1
        try clear hfz35_2
        try clear p2
        obtain ⟨x9_3, x10_3, x11_3, rfl, rfl, HA, HK3, HO_9, HO_132001, HO_133001, BK131, BK132, BK133, HB⟩ := hrel
        cases gk with
        | zero => exact absurd HA.out (by simp [dec_Add.l0])
        | succ k3 =>
         have H := HA.out
         clear HA
         simp only [dec_Add.l0] at H
         by_cases c41 : x11_3 ≤ (wrap64 (t135 + 1))
         ·rw [if_pos c41] at H
          have c41b0 : decide (x11_3 ≤ (wrap64 (t135 + 1))) = true := decide_eq_true c41
          clear c41
          replace H := Option.bind_eq_some_iff.mp H
          obtain ⟨t146, A420, H⟩ := H
          replace H : ((dec_Dec_at.f x133000_3 x133001_3 x133002_3 x11_3).bind fun t147 => (if (wrap64 ((wrap64 (t146 + (wrap64 (x6_19 * t147)))) + x10_3)) < 0 then (if (wrap64 ((wrap64 ((wrap64 (t146 + (wrap64 (x6_19 * t147)))) + x10_3)) + 10)) > 9 then (if 0 ≤ (wrap64 ((wrap64 (t135 + 1)) - x11_3)) then (if (wrap64 ((wrap64 (t135 + 1)) - x11_3)) < (x9_3.length : Int) then (dec_Add.l0 k3 x6_19 t135 t136 (x9_3.set ((wrap64 ((wrap64 (t135 + 1)) - x11_3)) : Int).toNat ((wrap64 ((wrap64 ((wrap64 ((wrap64 (t146 + (wrap64 (x6_19 * t147)))) + x10_3)) + 10)) - 10)) % 256)) 1 (wrap64 (x11_3 + 1)) x132000_3 x132001_3 x132002_3 x133000_3 x133001_3 x133002_3) else (none)) else (none)) else (if 0 ≤ (wrap64 ((wrap64 (t135 + 1)) - x11_3)) then (if (wrap64 ((wrap64 (t135 + 1)) - x11_3)) < (x9_3.length : Int) then (dec_Add.l0 k3 x6_19 t135 t136 (x9_3.set ((wrap64 ((wrap64 (t135 + 1)) - x11_3)) : Int).toNat ((wrap64 ((wrap64 ((wrap64 (t146 + (wrap64 (x6_19 * t147)))) + x10_3)) + 10)) % 256)) (-1) (wrap64 (x11_3 + 1)) x132000_3 x132001_3 x132002_3 x133000_3 x133001_3 x133002_3) else (none)) else (none))) else (if (wrap64 ((wrap64 (t146 + (wrap64 (x6_19 * t147)))) + x10_3)) > 9 then (if 0 ≤ (wrap64 ((wrap64 (t135 + 1)) - x11_3)) then (if (wrap64 ((wrap64 (t135 + 1)) - x11_3)) < (x9_3.length : Int) then (dec_Add.l0 k3 x6_19 t135 t136 (x9_3.set ((wrap64 ((wrap64 (t135 + 1)) - x11_3)) : Int).toNat ((wrap64 ((wrap64 ((wrap64 (t146 + (wrap64 (x6_19 * t147)))) + x10_3)) - 10)) % 256)) 1 (wrap64 (x11_3 + 1)) x132000_3 x132001_3 x132002_3 x133000_3 x133001_3 x133002_3) else (none)) else (none)) else (if 0 ≤ (wrap64 ((wrap64 (t135 + 1)) - x11_3)) then (if (wrap64 ((wrap64 (t135 + 1)) - x11_3)) < (x9_3.length : Int) then (dec_Add.l0 k3 x6_19 t135 t136 (x9_3.set ((wrap64 ((wrap64 (t135 + 1)) - x11_3)) : Int).toNat ((wrap64 ((wrap64 (t146 + (wrap64 (x6_19 * t147)))) + x10_3)) % 256)) 0 (wrap64 (x11_3 + 1)) x132000_3 x132001_3 x132002_3 x133000_3 x133001_3 x133002_3) else (none)) else (none))))) = some (r1, r2, r3, r4) := H
          have A42 := Aside0.mk A420
          clear A420
          replace H := Option.bind_eq_some_iff.mp H
          obtain ⟨t147, A430, H⟩ := H
          replace H : (if (wrap64 ((wrap64 (t146 + (wrap64 (x6_19 * t147)))) + x10_3)) < 0 then (if (wrap64 ((wrap64 ((wrap64 (t146 + (wrap64 (x6_19 * t147)))) + x10_3)) + 10)) > 9 then (if 0 ≤ (wrap64 ((wrap64 (t135 + 1)) - x11_3)) then (if (wrap64 ((wrap64 (t135 + 1)) - x11_3)) < (x9_3.length : Int) then (dec_Add.l0 k3 x6_19 t135 t136 (x9_3.set ((wrap64 ((wrap64 (t135 + 1)) - x11_3)) : Int).toNat ((wrap64 ((wrap64 ((wrap64 ((wrap64 (t146 + (wrap64 (x6_19 * t147)))) + x10_3)) + 10)) - 10)) % 256)) 1 (wrap64 (x11_3 + 1)) x132000_3 x132001_3 x132002_3 x133000_3 x133001_3 x133002_3) else (none)) else (none)) else (if 0 ≤ (wrap64 ((wrap64 (t135 + 1)) - x11_3)) then (if (wrap64 ((wrap64 (t135 + 1)) - x11_3)) < (x9_3.length : Int) then (dec_Add.l0 k3 x6_19 t135 t136 (x9_3.set ((wrap64 ((wrap64 (t135 + 1)) - x11_3)) : Int).toNat ((wrap64 ((wrap64 ((wrap64 (t146 + (wrap64 (x6_19 * t147)))) + x10_3)) + 10)) % 256)) (-1) (wrap64 (x11_3 + 1)) x132000_3 x132001_3 x132002_3 x133000_3 x133001_3 x133002_3) else (none)) else (none))) else (if (wrap64 ((wrap64 (t146 + (wrap64 (x6_19 * t147)))) + x10_3)) > 9 then (if 0 ≤ (wrap64 ((wrap64 (t135 + 1)) - x11_3)) then (if (wrap64 ((wrap64 (t135 + 1)) - x11_3)) < (x9_3.length : Int) then (dec_Add.l0 k3 x6_19 t135 t136 (x9_3.set ((wrap64 ((wrap64 (t135 + 1)) - x11_3)) : Int).toNat ((wrap64 ((wrap64 ((wrap64 (t146 + (wrap64 (x6_19 * t147)))) + x10_3)) - 10)) % 256)) 1 (wrap64 (x11_3 + 1)) x132000_3 x132001_3 x132002_3 x133000_3 x133001_3 x133002_3) else (none)) else (none)) else (if 0 ≤ (wrap64 ((wrap64 (t135 + 1)) - x11_3)) then (if (wrap64 ((wrap64 (t135 + 1)) - x11_3)) < (x9_3.length : Int) then (dec_Add.l0 k3 x6_19 t135 t136 (x9_3.set ((wrap64 ((wrap64 (t135 + 1)) - x11_3)) : Int).toNat ((wrap64 ((wrap64 (t146 + (wrap64 (x6_19 * t147)))) + x10_3)) % 256)) 0 (wrap64 (x11_3 + 1)) x132000_3 x132001_3 x132002_3 x133000_3 x133001_3 x133002_3) else (none)) else (none)))) = some (r1, r2, r3, r4) := H
          have A43 := Aside0.mk A430
          clear A430
          by_cases c44 : (wrap64 ((wrap64 (t146 + (wrap64 (x6_19 * t147)))) + x10_3)) < 0
          ·rw [if_pos c44] at H
           have c44b0 : decide ((wrap64 ((wrap64 (t146 + (wrap64 (x6_19 * t147)))) + x10_3)) < 0) = true := decide_eq_true c44
           clear c44
           by_cases c45 : (wrap64 ((wrap64 ((wrap64 (t146 + (wrap64 (x6_19 * t147)))) + x10_3)) + 10)) > 9
           ·rw [if_pos c45] at H
            have c45b0 : decide (9 < (wrap64 ((wrap64 ((wrap64 (t146 + (wrap64 (x6_19 * t147)))) + x10_3)) + 10))) = true := decide_eq_true c45
            clear c45
            obtain ⟨ji46, hji46⟩ : ∃ j_ : Int, (wrap64 ((wrap64 (t135 + 1)) - x11_3)) = j_ := ⟨_, rfl⟩
            replace H : (if 0 ≤ (ji46) then (if (ji46) < (x9_3.length : Int) then (dec_Add.l0 k3 x6_19 t135 t136 (x9_3.set ((ji46) : Int).toNat ((wrap64 ((wrap64 ((wrap64 ((wrap64 (t146 + (wrap64 (x6_19 * t147)))) + x10_3)) + 10)) - 10)) % 256)) 1 (wrap64 (x11_3 + 1)) x132000_3 x132001_3 x132002_3 x133000_3 x133001_3 x133002_3) else (none)) else (none)) = some (r1, r2, r3, r4) := by first | (rw [hji46] at H; exact H) | (simp only [hji46] at H ⊢; exact H)
            (try rw [hji46] at A42)
            (try rw [hji46] at A43)
            have hji46w : (IntKind.i64.wrap ((wrap64 (t135 + 1)) - x11_3)) = ji46 := (i64_w _).trans hji46
            by_cases c47 : 0 ≤ (ji46)
            ·rw [if_pos c47] at H
             have c47b0 : decide (0 ≤ (ji46)) = true := decide_eq_true c47
             clear c47
             by_cases c48 : (ji46) < (x9_3.length : Int)
             ·rw [if_pos c48] at H
              have c48b0 : decide ((ji46) < (x9_3.length : Int)) = true := decide_eq_true c48
              clear c48
              obtain ⟨y148, hy148⟩ : ∃ y_ : List Int, y_ = (x9_3.set ((ji46) : Int).toNat ((wrap64 ((wrap64 ((wrap64 ((wrap64 (t146 + (wrap64 (x6_19 * t147)))) + x10_3)) + 10)) - 10)) % 256)) := ⟨_, rfl⟩
              replace H : (dec_Add.l0 k3 x6_19 t135 t136 y148 1 (wrap64 (x11_3 + 1)) x132000_3 x132001_3 x132002_3 x133000_3 x133001_3 x133002_3) = some (r1, r2, r3, r4) := by first | (rw [hy148]; with_reducible exact H) | (have H2_ := (Option.bind_some _ _).symm.trans H; rw [hy148]; with_reducible exact H2_) | (have H2_ := (Option.bind_some _ _).symm.trans H; with_reducible exact H2_) | with_reducible exact H | (rw [hy148]; exact H) | exact H
              have Ny148 := Aside0.mk hy148
              clear hy148
              have H' := Aside0.mk H
              clear H
              try go_wp2
              have n0_ := Aside0.mk (Kd.R_drew HO_9.out)
              have n1_ := Aside0.mk (Kd.V_drew HO_132001.out)
              have n2_ := Aside0.mk (Kd.V_drew HO_133001.out)
              have n3_ := Aside0.mk (blk_drew BK131.out)
              have n4_ := Aside0.mk (blk_drew BK132.out)
              have n5_ := Aside0.mk (blk_drew BK133.out)
              have n6_ := Aside0.mk (below_drew1 HB.out)
              clear HO_9
              clear HO_132001
              clear HO_133001
              clear BK131
              clear BK132
              clear BK133
              clear HB
              have HO_9 := n0_
              have HO_132001 := n1_
              have HO_133001 := n2_
              have BK131 := n3_
              have BK132 := n4_
              have BK133 := n5_
              have HB := n6_
              clear n0_ n1_ n2_ n3_ n4_ n5_ n6_
              refine start_ (n := 12) (S := fun w' => w'.cell? ⟨gb131, 0, none⟩ = some (.bool x132000_3) ∧ w'.cell? ⟨gb131, 1, none⟩ = some (.slice Ao36 x132001_3.length co36) ∧ w'.cell? ⟨gb131, 2, none⟩ = some (.int .i64 x132002_3) ∧ w'.cell? ⟨gb132, 0, none⟩ = some (.bool x133000_3) ∧ w'.cell? ⟨gb132, 1, none⟩ = some (.slice Ao37 x133001_3.length co37) ∧ w'.cell? ⟨gb132, 2, none⟩ = some (.int .i64 x133002_3)) (ds := []) #[false, false, false, false, false, false, false, false, false, false, false, false] (by kernel_rfl) rfl rfl ⟨(blk_cell BK131.out 0).trans rfl, (blk_cell BK131.out 1).trans rfl, (blk_cell BK131.out 2).trans rfl, (blk_cell BK132.out 0).trans rfl, (blk_cell BK132.out 1).trans rfl, (blk_cell BK132.out 2).trans rfl⟩ (fun hHeld => ?_); refine with_tabW dec_Add.tab12 dec_Add.bits12 (fun HT_ HW_ => ?_)
              generalize wr.drew = w50 at HO_9 HO_132001 HO_133001 BK131 BK132 BK133 HB hHeld ⊢
              refine pure_ (i := 1) (N := some 44) (v := ?_) (a' := ?_) #[false, true, false, false, false, false, false, false, false, false, false, false] rfl rfl (any_of HT_.out (by kernel_rfl)) (fun _ _ _ h => h) (Or.inl ⟨by rfl, ?_⟩) ?_ ?_
              rotate_left
              ·intro w'
               go_simp
               with_reducible rfl
              rotate_left
              ·simp only [Act.put, List.setIfInBounds_toArray, List.set_cons_zero, List.set_cons_succ, i64_w, i32_w]
               rfl
              refine pure_ (i := 3) (N := some 46) (v := ?_) (a' := ?_) #[false, true, false, true, false, false, false, false, false, false, false, false] rfl rfl (any_of HT_.out (by kernel_rfl)) (fun _ _ _ h => h) (Or.inl ⟨by rfl, ?_⟩) ?_ ?_
              rotate_left
              ·intro w'
               go_simp
               with_reducible rfl
              rotate_left
              ·simp only [Act.put, List.setIfInBounds_toArray, List.set_cons_zero, List.set_cons_succ, i64_w, i32_w]
               rfl
              refine pure_ (i := 5) (N := some 48) (v := ?_) (a' := ?_) #[false, true, false, true, false, true, false, false, false, false, false, false] rfl rfl (any_of HT_.out (by kernel_rfl)) (fun _ _ _ h => h) (Or.inl ⟨by rfl, ?_⟩) ?_ ?_
              rotate_left
              ·intro w'
               go_simp
               with_reducible rfl
              rotate_left
              ·simp only [Act.put, List.setIfInBounds_toArray, List.set_cons_zero, List.set_cons_succ, i64_w, i32_w]
               rfl
              refine pure_ (i := 9) (N := some 52) (v := ?_) (a' := ?_) #[false, true, false, true, false, true, false, false, false, true, false, false] rfl rfl (any_of HT_.out (by kernel_rfl)) (fun _ _ _ h => h) (Or.inl ⟨by rfl, ?_⟩) ?_ ?_
              rotate_left
              ·intro w'
               go_simp
               with_reducible rfl
              rotate_left
              ·simp only [Act.put, List.setIfInBounds_toArray, List.set_cons_zero, List.set_cons_succ, i64_w, i32_w]
               rfl
              refine take_ (i := 0) (N := some 43) (v := ?_) (a' := ?_) #[true, true, false, true, false, true, false, false, false, true, false, false] rfl rfl (take_ofW HT_.out HW_.out (by kernel_rfl)) (fun _ _ _ h => h) (Or.inl ⟨by rfl, ?_⟩) hHeld ?_ ?_
              rotate_left
              ·rintro w' ⟨s0, s1, s2, s3, s4, s5⟩
               go_simp
               with_reducible rfl
              rotate_left
              ·simp only [Act.put, List.setIfInBounds_toArray, List.set_cons_zero, List.set_cons_succ, i64_w, i32_w]
               rfl
              refine take_ (i := 4) (N := some 47) (v := ?_) (a' := ?_) #[true, true, false, true, true, true, false, false, false, true, false, false] rfl rfl (take_ofW HT_.out HW_.out (by kernel_rfl)) (fun _ _ _ h => h) (Or.inl ⟨by rfl, ?_⟩) hHeld ?_ ?_
              rotate_left
              ·rintro w' ⟨s0, s1, s2, s3, s4, s5⟩
               go_simp
               with_reducible rfl
              rotate_left
              ·simp only [Act.put, List.setIfInBounds_toArray, List.set_cons_zero, List.set_cons_succ, i64_w, i32_w]
               rfl
              refine one_ (i := 2) (N := some 45) #[true, true, true, true, true, true, false, false, false, true, false, false] rfl rfl (one_of HT_.out (by kernel_rfl)) (by decide) (fun K hK => ?_)
              refine goes_ Try.func27 (by kernel_rfl) rfl #[.agg #[.bool x132000_3, .slice Ao36 x132001_3.length co36, .int .i64 x132002_3], .int .i64 x11_3] (by rfl) rfl rfl (by (try simp only [List.map_toArray, List.map_cons, List.map_nil]); first | done | rfl | (simp only [List.length_drop, List.length_take]; rfl)) ?_
              with_reducible refine (dec_Dec_at.calls x132000_3 _ _ x132001_3 x132002_3 x11_3 t146 _ ?side1 ?side2 A42.out).mono ?_
              (case side1 => repeat (first | exact (Kd.V_reads' HO_132001.out).2.2 | (with_reducible refine Kd.C_alloc ?_ _) | (with_reducible refine Kd.C_drewN ?_ _) | (with_reducible refine Kd.C_drew ?_)))
              (case side2 => exact (Kd.V_reads' HO_132001.out).2.1)
              rintro e w51 ⟨rfl, hb⟩
              refine ⟨_, rfl, ?_⟩
              have n0_ := Aside0.mk (Kd.R_below (S.r HO_9.out) hb)
              have n1_ := Aside0.mk (Kd.V_below (S.v HO_132001.out) hb)
              have n2_ := Aside0.mk (Kd.V_below (S.v HO_133001.out) hb)
              have n3_ := Aside0.mk (blk_below (g := gb131) (o := .cells #[.bool x132000_3, .slice Ao36 x132001_3.length co36, .int .i64 x132002_3] 25 (0, 0)) (S.b BK131.out) hb)
              have n4_ := Aside0.mk (blk_below (g := gb132) (o := .cells #[.bool x133000_3, .slice Ao37 x133001_3.length co37, .int .i64 x133002_3] 25 (0, 0)) (S.b BK132.out) hb)
              have n5_ := Aside0.mk (blk_below (g := gb133) (o := .cells #[.bool false, .slice none 0 0, .int .i64 0] 25 (0, 0)) (S.b BK133.out) hb)
              have n6_ := Aside0.mk (below_step (by repeat (first | (with_reducible first | exact HB.out | apply below_alloc | apply pw_below_drewN | apply below_drew1 | refine below_set ?_ GE131.out | refine below_set ?_ GE132.out | refine below_set ?_ GE133.out) | exact HB.out)) hb)
              clear HO_9
              clear HO_132001
              clear HO_133001
              clear BK131
              clear BK132
              clear BK133
              clear HB
              have HO_9 := n0_
              have HO_132001 := n1_
              have HO_133001 := n2_
              have BK131 := n3_
              have BK132 := n4_
              have BK133 := n5_
              have HB := n6_
              clear n0_ n1_ n2_ n3_ n4_ n5_ n6_
              (try clear hb)
              (try clear hb2)
              (try clear hk)
              (try clear hi)
              refine hK.out _ _ ⟨(blk_cell BK131.out 0).trans rfl, (blk_cell BK131.out 1).trans rfl, (blk_cell BK131.out 2).trans rfl, (blk_cell BK132.out 0).trans rfl, (blk_cell BK132.out 1).trans rfl, (blk_cell BK132.out 2).trans rfl⟩ (fun hHeld => ?_)
              clear hK K
              refine norm_ (a' := ?_) ?_ ?_
              rotate_left
              ·show Act.put _ (some 45) _ = _
               simp only [Act.put, List.setIfInBounds_toArray, List.set_cons_zero, List.set_cons_succ, i64_w, i32_w]
               rfl
              refine one_ (i := 6) (N := some 49) #[true, true, true, true, true, true, true, false, false, true, false, false] rfl rfl (one_of HT_.out (by kernel_rfl)) (by decide) (fun K hK => ?_)
              refine goes_ Try.func27 (by kernel_rfl) rfl #[.agg #[.bool x133000_3, .slice Ao37 x133001_3.length co37, .int .i64 x133002_3], .int .i64 x11_3] (by rfl) rfl rfl (by (try simp only [List.map_toArray, List.map_cons, List.map_nil]); first | done | rfl | (simp only [List.length_drop, List.length_take]; rfl)) ?_
              with_reducible refine (dec_Dec_at.calls x133000_3 _ _ x133001_3 x133002_3 x11_3 t147 _ ?side1 ?side2 A43.out).mono ?_
              (case side1 => repeat (first | exact (Kd.V_reads' HO_133001.out).2.2 | (with_reducible refine Kd.C_alloc ?_ _) | (with_reducible refine Kd.C_drewN ?_ _) | (with_reducible refine Kd.C_drew ?_)))
              (case side2 => exact (Kd.V_reads' HO_133001.out).2.1)
              rintro e w52 ⟨rfl, hb⟩
              refine ⟨_, rfl, ?_⟩
              have n0_ := Aside0.mk (Kd.R_below (S.r HO_9.out) hb)
              have n1_ := Aside0.mk (Kd.V_below (S.v HO_132001.out) hb)
              have n2_ := Aside0.mk (Kd.V_below (S.v HO_133001.out) hb)
              have n3_ := Aside0.mk (blk_below (g := gb131) (o := .cells #[.bool x132000_3, .slice Ao36 x132001_3.length co36, .int .i64 x132002_3] 25 (0, 0)) (S.b BK131.out) hb)
              have n4_ := Aside0.mk (blk_below (g := gb132) (o := .cells #[.bool x133000_3, .slice Ao37 x133001_3.length co37, .int .i64 x133002_3] 25 (0, 0)) (S.b BK132.out) hb)
              have n5_ := Aside0.mk (blk_below (g := gb133) (o := .cells #[.bool false, .slice none 0 0, .int .i64 0] 25 (0, 0)) (S.b BK133.out) hb)
              have n6_ := Aside0.mk (below_step (by repeat (first | (with_reducible first | exact HB.out | apply below_alloc | apply pw_below_drewN | apply below_drew1 | refine below_set ?_ GE131.out | refine below_set ?_ GE132.out | refine below_set ?_ GE133.out) | exact HB.out)) hb)
              clear HO_9
              clear HO_132001
              clear HO_133001
              clear BK131
              clear BK132
              clear BK133
              clear HB
              have HO_9 := n0_
              have HO_132001 := n1_
              have HO_133001 := n2_
              have BK131 := n3_
              have BK132 := n4_
              have BK133 := n5_
              have HB := n6_
              clear n0_ n1_ n2_ n3_ n4_ n5_ n6_
              (try clear hb)
              (try clear hb2)
              (try clear hk)
              (try clear hi)
              refine hK.out _ _ ⟨(blk_cell BK131.out 0).trans rfl, (blk_cell BK131.out 1).trans rfl, (blk_cell BK131.out 2).trans rfl, (blk_cell BK132.out 0).trans rfl, (blk_cell BK132.out 1).trans rfl, (blk_cell BK132.out 2).trans rfl⟩ (fun hHeld => ?_)
              clear hK K
              refine norm_ (a' := ?_) ?_ ?_
              rotate_left
              ·show Act.put _ (some 49) _ = _
               simp only [Act.put, List.setIfInBounds_toArray, List.set_cons_zero, List.set_cons_succ, i64_w, i32_w]
               rfl
              refine pure_ (i := 7) (N := some 50) (v := ?_) (a' := ?_) #[true, true, true, true, true, true, true, true, false, true, false, false] rfl rfl (any_of HT_.out (by kernel_rfl)) (fun _ _ _ h => h) (Or.inl ⟨by rfl, ?_⟩) ?_ ?_
              rotate_left
              ·intro w'
               go_simp
               with_reducible rfl
              rotate_left
              ·simp only [Act.put, List.setIfInBounds_toArray, List.set_cons_zero, List.set_cons_succ, i64_w, i32_w]
               rfl
              refine pure_ (i := 8) (N := some 51) (v := ?_) (a' := ?_) #[true, true, true, true, true, true, true, true, true, true, false, false] rfl rfl (any_of HT_.out (by kernel_rfl)) (fun _ _ _ h => h) (Or.inl ⟨by rfl, ?_⟩) ?_ ?_
              rotate_left
              ·intro w'
               go_simp
               with_reducible rfl
              rotate_left
              ·simp only [Act.put, List.setIfInBounds_toArray, List.set_cons_zero, List.set_cons_succ, i64_w, i32_w]
               rfl
              refine pure_ (i := 10) (N := some 53) (v := ?_) (a' := ?_) #[true, true, true, true, true, true, true, true, true, true, true, false] rfl rfl (any_of HT_.out (by kernel_rfl)) (fun _ _ _ h => h) (Or.inl ⟨by rfl, ?_⟩) ?_ ?_
              rotate_left
              ·intro w'
               go_simp
               with_reducible rfl
              rotate_left
              ·simp only [Act.put, List.setIfInBounds_toArray, List.set_cons_zero, List.set_cons_succ, i64_w, i32_w]
               rfl
              refine pure_ (i := 11) (N := some 12) (v := ?_) (a' := ?_) #[true, true, true, true, true, true, true, true, true, true, true, true] rfl rfl (any_of HT_.out (by kernel_rfl)) (fun _ _ _ h => h) (Or.inl ⟨by rfl, ?_⟩) ?_ ?_
              rotate_left
              ·intro w'
               go_simp
               with_reducible rfl
              rotate_left
              ·simp only [Act.put, List.setIfInBounds_toArray, List.set_cons_zero, List.set_cons_succ, i64_w, i32_w]
               rfl
              refine done_ (done_of HT_.out (by kernel_rfl)) ?_
              have p49 : 0 ≤ ((ji46) : Int) := of_decide_eq_true (by first | (with_reducible assumption) | assumption)
              have q49 : ((ji46) : Int) < ((x9_3.length : Int) : Int) := of_decide_eq_true (by first | (with_reducible assumption) | assumption)
              obtain ⟨go49, co49, eo49, gb49, gl49, cl49, HG49⟩ := Kd.R_form HO_9.out (by omega)
              (first | cases eo49 | (injection eo49 with ea_ en_ ec_; (first | subst ea_ | (injection ea_ with ea_; subst ea_)); subst ec_; clear en_))
              have GB49 := Aside0.mk gb49
              have GG49 := Aside0.mk HG49
              clear gb49 gl49 HG49
              obtain ⟨hx49_0, hf49_0⟩ := Kd.R_celln 0 HO_9.out ((ji46) : Int) p49 q49
              replace p49 := eq_true p49
              replace q49 := eq_true q49
              obtain ⟨hy53_, hz53_⟩ := Kd.R_celln 0 HO_9.out ((ji46) : Int) (of_decide_eq_true (by first | (with_reducible assumption) | assumption)) (of_decide_eq_true (by first | (with_reducible assumption) | assumption))
              have HP53 := Kd.R_putg HO_9.out ((ji46) : Int) ((wrap64 ((wrap64 ((wrap64 ((wrap64 (t146 + (wrap64 (x6_19 * t147)))) + x10_3)) + 10)) - 10)) % 256)
              try go_wp2_with (first | ((with_reducible refine gate_store (t := 5) (p := 69) rfl ?_); refine store_event (t := 5) (p := 69) (v := ?vo_w54) (w1 := (w52.setCell ⟨go49, ((ji46) : Int).toNat, none⟩ (.int .u8 ((wrap64 ((wrap64 ((wrap64 ((wrap64 (t146 + (wrap64 (x6_19 * t147)))) + x10_3)) + 10)) - 10)) % 256)))) ?hg ?ho ?hn ?hr ?_; (case ho => rfl); (case hg => rfl); (case hn => rfl); (case hr => first | (go_simp; done) | (go_simp; rfl)); intro w54 hw; have hg : w52.grownBy w54 (some go49) := (by rw [hw]; exact HP53.2); have hp_ : Kd.R (Kd.int .u8) 5 w54 w.heap.size (fun k_ => (w.heap.size ≤ k_)) (.slice (some ⟨go49, 0, none⟩) x9_3.length co49) y148 := (by rw [hw, Ny148.out]; exact HP53.1); clear HP53; have n0_ := Aside0.mk (hp_); have n1_ := Aside0.mk (Kd.V_afterv (v := (.slice (some ⟨go49, 0, none⟩) x9_3.length co49)) (v1 := (.slice (some ⟨go49, 0, none⟩) x9_3.length co49)) (ok := (fun k_ => ((P0_1_ k_ ∨ P1_1_ k_) ∨ w.heap.size ≤ k_) ∧ k_ ≠ gb131 ∧ k_ ≠ gb132 ∧ k_ ≠ gb133)) (by (with_reducible repeat (first | apply Kd.V_alloc | apply Kd.V_drewN | apply Kd.V_drew)); exact Kd.V_mono HO_132001.out (fun _ hk => ⟨⟨hk.1, ⟨hk.2.2.1, ⟨hk.2.2.2.1, hk.2.2.2.2⟩⟩⟩, hk.2.1⟩)) hg (.inl rfl)); have n2_ := Aside0.mk (Kd.V_afterv (v := (.slice (some ⟨go49, 0, none⟩) x9_3.length co49)) (v1 := (.slice (some ⟨go49, 0, none⟩) x9_3.length co49)) (ok := (fun k_ => ((P0_1_ k_ ∨ P1_1_ k_) ∨ w.heap.size ≤ k_) ∧ k_ ≠ gb131 ∧ k_ ≠ gb132 ∧ k_ ≠ gb133)) (by (with_reducible repeat (first | apply Kd.V_alloc | apply Kd.V_drewN | apply Kd.V_drew)); exact Kd.V_mono HO_133001.out (fun _ hk => ⟨⟨hk.1, ⟨hk.2.2.1, ⟨hk.2.2.2.1, hk.2.2.2.2⟩⟩⟩, hk.2.1⟩)) hg (.inl rfl)); have n3_ := Aside0.mk (blk_grown (g := gb131) (o := .cells #[.bool x132000_3, .slice Ao36 x132001_3.length co36, .int .i64 x132002_3] 25 (0, 0)) (S.b BK131.out) hg (Kd.R_ne HO_9.out BK131.out (by decide))); have n4_ := Aside0.mk (blk_grown (g := gb132) (o := .cells #[.bool x133000_3, .slice Ao37 x133001_3.length co37, .int .i64 x133002_3] 25 (0, 0)) (S.b BK132.out) hg (Kd.R_ne HO_9.out BK132.out (by decide))); have n5_ := Aside0.mk (blk_grown (g := gb133) (o := .cells #[.bool false, .slice none 0 0, .int .i64 0] 25 (0, 0)) (S.b BK133.out) hg (Kd.R_ne HO_9.out BK133.out (by decide))); have n6_ := Aside0.mk ((by rw [hw]; exact below_set (HB.out) GB49.out : Below w.heap.size w w54)); clear HO_9; clear HO_132001; clear HO_133001; clear BK131; clear BK132; clear BK133; clear HB; have HO_9 := n0_; have HO_132001 := n1_; have HO_133001 := n2_; have BK131 := n3_; have BK132 := n4_; have BK133 := n5_; have HB := n6_; clear n0_ n1_ n2_ n3_ n4_ n5_ n6_; clear hg hw hp_))
              go_roundg k3
              case measure => have := HJ3.out; have := HJ19.out; have := HK3.out; omega
              case rel => exact ⟨(y148), (1), (wrap64 (x11_3 + 1)), (by first | rfl | (simp; done) | (simp [*]; done)), (by first | rfl | (simp; done) | (simp [*]; done)), H', ⟨by have := HJ3.out; have := HJ19.out; have := HK3.out; omega⟩, ⟨S.r HO_9.out⟩, ⟨by (with_reducible repeat (first | apply Kd.V_alloc | apply Kd.V_drewN | apply Kd.V_drew)); exact Kd.V_mono HO_132001.out (fun _ hk => ⟨hk.1.1, ⟨hk.2, ⟨hk.1.2.1, ⟨hk.1.2.2.1, hk.1.2.2.2⟩⟩⟩⟩)⟩, ⟨by (with_reducible repeat (first | apply Kd.V_alloc | apply Kd.V_drewN | apply Kd.V_drew)); exact Kd.V_mono HO_133001.out (fun _ hk => ⟨hk.1.1, ⟨hk.2, ⟨hk.1.2.1, ⟨hk.1.2.2.1, hk.1.2.2.2⟩⟩⟩⟩)⟩, ⟨S.b BK131.out⟩, ⟨S.b BK132.out⟩, ⟨S.b BK133.out⟩, ⟨by repeat (first | (with_reducible first | exact HB.out | apply below_alloc | apply pw_below_drewN | apply below_drew1 | refine below_set ?_ GE131.out | refine below_set ?_ GE132.out | refine below_set ?_ GE133.out) | exact HB.out)⟩⟩
             ·rw [if_neg c48] at H
              exact absurd H (by simp)
            ·rw [if_neg c47] at H
             exact absurd H (by simp)
           ·rw [if_neg c45] at H
            have c45b0 : decide (9 < (wrap64 ((wrap64 ((wrap64 (t146 + (wrap64 (x6_19 * t147)))) + x10_3)) + 10))) = false := decide_eq_false c45
            clear c45
            obtain ⟨ji55, hji55⟩ : ∃ j_ : Int, (wrap64 ((wrap64 (t135 + 1)) - x11_3)) = j_ := ⟨_, rfl⟩
            replace H : (if 0 ≤ (ji55) then (if (ji55) < (x9_3.length : Int) then (dec_Add.l0 k3 x6_19 t135 t136 (x9_3.set ((ji55) : Int).toNat ((wrap64 ((wrap64 ((wrap64 (t146 + (wrap64 (x6_19 * t147)))) + x10_3)) + 10)) % 256)) (-1) (wrap64 (x11_3 + 1)) x132000_3 x132001_3 x132002_3 x133000_3 x133001_3 x133002_3) else (none)) else (none)) = some (r1, r2, r3, r4) := by first | (rw [hji55] at H; exact H) | (simp only [hji55] at H ⊢; exact H)
            (try rw [hji55] at A42)
            (try rw [hji55] at A43)
            have hji55w : (IntKind.i64.wrap ((wrap64 (t135 + 1)) - x11_3)) = ji55 := (i64_w _).trans hji55
            by_cases c56 : 0 ≤ (ji55)
            ·rw [if_pos c56] at H
             have c56b0 : decide (0 ≤ (ji55)) = true := decide_eq_true c56
             clear c56
             by_cases c57 : (ji55) < (x9_3.length : Int)
             ·rw [if_pos c57] at H
              have c57b0 : decide ((ji55) < (x9_3.length : Int)) = true := decide_eq_true c57
              clear c57
              obtain ⟨y149, hy149⟩ : ∃ y_ : List Int, y_ = (x9_3.set ((ji55) : Int).toNat ((wrap64 ((wrap64 ((wrap64 (t146 + (wrap64 (x6_19 * t147)))) + x10_3)) + 10)) % 256)) := ⟨_, rfl⟩
              replace H : (dec_Add.l0 k3 x6_19 t135 t136 y149 (-1) (wrap64 (x11_3 + 1)) x132000_3 x132001_3 x132002_3 x133000_3 x133001_3 x133002_3) = some (r1, r2, r3, r4) := by first | (rw [hy149]; with_reducible exact H) | (have H2_ := (Option.bind_some _ _).symm.trans H; rw [hy149]; with_reducible exact H2_) | (have H2_ := (Option.bind_some _ _).symm.trans H; with_reducible exact H2_) | with_reducible exact H | (rw [hy149]; exact H) | exact H
              have Ny149 := Aside0.mk hy149
              clear hy149
              have H' := Aside0.mk H
              clear H
              try go_wp2
              have n0_ := Aside0.mk (Kd.R_drew HO_9.out)
              have n1_ := Aside0.mk (Kd.V_drew HO_132001.out)
              have n2_ := Aside0.mk (Kd.V_drew HO_133001.out)
              have n3_ := Aside0.mk (blk_drew BK131.out)
              have n4_ := Aside0.mk (blk_drew BK132.out)
              have n5_ := Aside0.mk (blk_drew BK133.out)
              have n6_ := Aside0.mk (below_drew1 HB.out)
              clear HO_9
              clear HO_132001
              clear HO_133001
              clear BK131
              clear BK132
              clear BK133
              clear HB
              have HO_9 := n0_
              have HO_132001 := n1_
              have HO_133001 := n2_
              have BK131 := n3_
              have BK132 := n4_
              have BK133 := n5_
              have HB := n6_
              clear n0_ n1_ n2_ n3_ n4_ n5_ n6_
              refine start_ (n := 12) (S := fun w' => w'.cell? ⟨gb131, 0, none⟩ = some (.bool x132000_3) ∧ w'.cell? ⟨gb131, 1, none⟩ = some (.slice Ao36 x132001_3.length co36) ∧ w'.cell? ⟨gb131, 2, none⟩ = some (.int .i64 x132002_3) ∧ w'.cell? ⟨gb132, 0, none⟩ = some (.bool x133000_3) ∧ w'.cell? ⟨gb132, 1, none⟩ = some (.slice Ao37 x133001_3.length co37) ∧ w'.cell? ⟨gb132, 2, none⟩ = some (.int .i64 x133002_3)) (ds := []) #[false, false, false, false, false, false, false, false, false, false, false, false] (by kernel_rfl) rfl rfl ⟨(blk_cell BK131.out 0).trans rfl, (blk_cell BK131.out 1).trans rfl, (blk_cell BK131.out 2).trans rfl, (blk_cell BK132.out 0).trans rfl, (blk_cell BK132.out 1).trans rfl, (blk_cell BK132.out 2).trans rfl⟩ (fun hHeld => ?_); refine with_tabW dec_Add.tab12 dec_Add.bits12 (fun HT_ HW_ => ?_)
              generalize wr.drew = w59 at HO_9 HO_132001 HO_133001 BK131 BK132 BK133 HB hHeld ⊢
              refine pure_ (i := 1) (N := some 44) (v := ?_) (a' := ?_) #[false, true, false, false, false, false, false, false, false, false, false, false] rfl rfl (any_of HT_.out (by kernel_rfl)) (fun _ _ _ h => h) (Or.inl ⟨by rfl, ?_⟩) ?_ ?_
              rotate_left
              ·intro w'
               go_simp
               with_reducible rfl
              rotate_left
              ·simp only [Act.put, List.setIfInBounds_toArray, List.set_cons_zero, List.set_cons_succ, i64_w, i32_w]
               rfl
              refine pure_ (i := 3) (N := some 46) (v := ?_) (a' := ?_) #[false, true, false, true, false, false, false, false, false, false, false, false] rfl rfl (any_of HT_.out (by kernel_rfl)) (fun _ _ _ h => h) (Or.inl ⟨by rfl, ?_⟩) ?_ ?_
              rotate_left
              ·intro w'
               go_simp
               with_reducible rfl
              rotate_left
              ·simp only [Act.put, List.setIfInBounds_toArray, List.set_cons_zero, List.set_cons_succ, i64_w, i32_w]
               rfl
              refine pure_ (i := 5) (N := some 48) (v := ?_) (a' := ?_) #[false, true, false, true, false, true, false, false, false, false, false, false] rfl rfl (any_of HT_.out (by kernel_rfl)) (fun _ _ _ h => h) (Or.inl ⟨by rfl, ?_⟩) ?_ ?_
              rotate_left
              ·intro w'
               go_simp
               with_reducible rfl
              rotate_left
              ·simp only [Act.put, List.setIfInBounds_toArray, List.set_cons_zero, List.set_cons_succ, i64_w, i32_w]
               rfl
              refine pure_ (i := 9) (N := some 52) (v := ?_) (a' := ?_) #[false, true, false, true, false, true, false, false, false, true, false, false] rfl rfl (any_of HT_.out (by kernel_rfl)) (fun _ _ _ h => h) (Or.inl ⟨by rfl, ?_⟩) ?_ ?_
              rotate_left
              ·intro w'
               go_simp
               with_reducible rfl
              rotate_left
              ·simp only [Act.put, List.setIfInBounds_toArray, List.set_cons_zero, List.set_cons_succ, i64_w, i32_w]
               rfl
              refine take_ (i := 0) (N := some 43) (v := ?_) (a' := ?_) #[true, true, false, true, false, true, false, false, false, true, false, false] rfl rfl (take_ofW HT_.out HW_.out (by kernel_rfl)) (fun _ _ _ h => h) (Or.inl ⟨by rfl, ?_⟩) hHeld ?_ ?_
              rotate_left
              ·rintro w' ⟨s0, s1, s2, s3, s4, s5⟩
               go_simp
               with_reducible rfl
              rotate_left
              ·simp only [Act.put, List.setIfInBounds_toArray, List.set_cons_zero, List.set_cons_succ, i64_w, i32_w]
               rfl
              refine take_ (i := 4) (N := some 47) (v := ?_) (a' := ?_) #[true, true, false, true, true, true, false, false, false, true, false, false] rfl rfl (take_ofW HT_.out HW_.out (by kernel_rfl)) (fun _ _ _ h => h) (Or.inl ⟨by rfl, ?_⟩) hHeld ?_ ?_
              rotate_left
              ·rintro w' ⟨s0, s1, s2, s3, s4, s5⟩
               go_simp
               with_reducible rfl
              rotate_left
              ·simp only [Act.put, List.setIfInBounds_toArray, List.set_cons_zero, List.set_cons_succ, i64_w, i32_w]
               rfl
              refine one_ (i := 2) (N := some 45) #[true, true, true, true, true, true, false, false, false, true, false, false] rfl rfl (one_of HT_.out (by kernel_rfl)) (by decide) (fun K hK => ?_)
              refine goes_ Try.func27 (by kernel_rfl) rfl #[.agg #[.bool x132000_3, .slice Ao36 x132001_3.length co36, .int .i64 x132002_3], .int .i64 x11_3] (by rfl) rfl rfl (by (try simp only [List.map_toArray, List.map_cons, List.map_nil]); first | done | rfl | (simp only [List.length_drop, List.length_take]; rfl)) ?_
              with_reducible refine (dec_Dec_at.calls x132000_3 _ _ x132001_3 x132002_3 x11_3 t146 _ ?side1 ?side2 A42.out).mono ?_
              (case side1 => repeat (first | exact (Kd.V_reads' HO_132001.out).2.2 | (with_reducible refine Kd.C_alloc ?_ _) | (with_reducible refine Kd.C_drewN ?_ _) | (with_reducible refine Kd.C_drew ?_)))
              (case side2 => exact (Kd.V_reads' HO_132001.out).2.1)
              rintro e w60 ⟨rfl, hb⟩
              refine ⟨_, rfl, ?_⟩
              have n0_ := Aside0.mk (Kd.R_below (S.r HO_9.out) hb)
              have n1_ := Aside0.mk (Kd.V_below (S.v HO_132001.out) hb)
              have n2_ := Aside0.mk (Kd.V_below (S.v HO_133001.out) hb)
              have n3_ := Aside0.mk (blk_below (g := gb131) (o := .cells #[.bool x132000_3, .slice Ao36 x132001_3.length co36, .int .i64 x132002_3] 25 (0, 0)) (S.b BK131.out) hb)
              have n4_ := Aside0.mk (blk_below (g := gb132) (o := .cells #[.bool x133000_3, .slice Ao37 x133001_3.length co37, .int .i64 x133002_3] 25 (0, 0)) (S.b BK132.out) hb)
              have n5_ := Aside0.mk (blk_below (g := gb133) (o := .cells #[.bool false, .slice none 0 0, .int .i64 0] 25 (0, 0)) (S.b BK133.out) hb)
              have n6_ := Aside0.mk (below_step (by repeat (first | (with_reducible first | exact HB.out | apply below_alloc | apply pw_below_drewN | apply below_drew1 | refine below_set ?_ GE131.out | refine below_set ?_ GE132.out | refine below_set ?_ GE133.out) | exact HB.out)) hb)
              clear HO_9
              clear HO_132001
              clear HO_133001
              clear BK131
              clear BK132
              clear BK133
              clear HB
              have HO_9 := n0_
              have HO_132001 := n1_
              have HO_133001 := n2_
              have BK131 := n3_
              have BK132 := n4_
              have BK133 := n5_
              have HB := n6_
              clear n0_ n1_ n2_ n3_ n4_ n5_ n6_
              (try clear hb)
              (try clear hb2)
              (try clear hk)
              (try clear hi)
              refine hK.out _ _ ⟨(blk_cell BK131.out 0).trans rfl, (blk_cell BK131.out 1).trans rfl, (blk_cell BK131.out 2).trans rfl, (blk_cell BK132.out 0).trans rfl, (blk_cell BK132.out 1).trans rfl, (blk_cell BK132.out 2).trans rfl⟩ (fun hHeld => ?_)
              clear hK K
              refine norm_ (a' := ?_) ?_ ?_
              rotate_left
              ·show Act.put _ (some 45) _ = _
               simp only [Act.put, List.setIfInBounds_toArray, List.set_cons_zero, List.set_cons_succ, i64_w, i32_w]
               rfl
              refine one_ (i := 6) (N := some 49) #[true, true, true, true, true, true, true, false, false, true, false, false] rfl rfl (one_of HT_.out (by kernel_rfl)) (by decide) (fun K hK => ?_)
              refine goes_ Try.func27 (by kernel_rfl) rfl #[.agg #[.bool x133000_3, .slice Ao37 x133001_3.length co37, .int .i64 x133002_3], .int .i64 x11_3] (by rfl) rfl rfl (by (try simp only [List.map_toArray, List.map_cons, List.map_nil]); first | done | rfl | (simp only [List.length_drop, List.length_take]; rfl)) ?_
              with_reducible refine (dec_Dec_at.calls x133000_3 _ _ x133001_3 x133002_3 x11_3 t147 _ ?side1 ?side2 A43.out).mono ?_
              (case side1 => repeat (first | exact (Kd.V_reads' HO_133001.out).2.2 | (with_reducible refine Kd.C_alloc ?_ _) | (with_reducible refine Kd.C_drewN ?_ _) | (with_reducible refine Kd.C_drew ?_)))
              (case side2 => exact (Kd.V_reads' HO_133001.out).2.1)
              rintro e w61 ⟨rfl, hb⟩
              refine ⟨_, rfl, ?_⟩
              have n0_ := Aside0.mk (Kd.R_below (S.r HO_9.out) hb)
              have n1_ := Aside0.mk (Kd.V_below (S.v HO_132001.out) hb)
              have n2_ := Aside0.mk (Kd.V_below (S.v HO_133001.out) hb)
              have n3_ := Aside0.mk (blk_below (g := gb131) (o := .cells #[.bool x132000_3, .slice Ao36 x132001_3.length co36, .int .i64 x132002_3] 25 (0, 0)) (S.b BK131.out) hb)
              have n4_ := Aside0.mk (blk_below (g := gb132) (o := .cells #[.bool x133000_3, .slice Ao37 x133001_3.length co37, .int .i64 x133002_3] 25 (0, 0)) (S.b BK132.out) hb)
              have n5_ := Aside0.mk (blk_below (g := gb133) (o := .cells #[.bool false, .slice none 0 0, .int .i64 0] 25 (0, 0)) (S.b BK133.out) hb)
              have n6_ := Aside0.mk (below_step (by repeat (first | (with_reducible first | exact HB.out | apply below_alloc | apply pw_below_drewN | apply below_drew1 | refine below_set ?_ GE131.out | refine below_set ?_ GE132.out | refine below_set ?_ GE133.out) | exact HB.out)) hb)
              clear HO_9
              clear HO_132001
              clear HO_133001
              clear BK131
              clear BK132
              clear BK133
              clear HB
              have HO_9 := n0_
              have HO_132001 := n1_
              have HO_133001 := n2_
              have BK131 := n3_
              have BK132 := n4_
              have BK133 := n5_
              have HB := n6_
              clear n0_ n1_ n2_ n3_ n4_ n5_ n6_
              (try clear hb)
              (try clear hb2)
              (try clear hk)
              (try clear hi)
              refine hK.out _ _ ⟨(blk_cell BK131.out 0).trans rfl, (blk_cell BK131.out 1).trans rfl, (blk_cell BK131.out 2).trans rfl, (blk_cell BK132.out 0).trans rfl, (blk_cell BK132.out 1).trans rfl, (blk_cell BK132.out 2).trans rfl⟩ (fun hHeld => ?_)
              clear hK K
              refine norm_ (a' := ?_) ?_ ?_
              rotate_left
              ·show Act.put _ (some 49) _ = _
               simp only [Act.put, List.setIfInBounds_toArray, List.set_cons_zero, List.set_cons_succ, i64_w, i32_w]
               rfl
              refine pure_ (i := 7) (N := some 50) (v := ?_) (a' := ?_) #[true, true, true, true, true, true, true, true, false, true, false, false] rfl rfl (any_of HT_.out (by kernel_rfl)) (fun _ _ _ h => h) (Or.inl ⟨by rfl, ?_⟩) ?_ ?_
              rotate_left
              ·intro w'
               go_simp
               with_reducible rfl
              rotate_left
              ·simp only [Act.put, List.setIfInBounds_toArray, List.set_cons_zero, List.set_cons_succ, i64_w, i32_w]
               rfl
              refine pure_ (i := 8) (N := some 51) (v := ?_) (a' := ?_) #[true, true, true, true, true, true, true, true, true, true, false, false] rfl rfl (any_of HT_.out (by kernel_rfl)) (fun _ _ _ h => h) (Or.inl ⟨by rfl, ?_⟩) ?_ ?_
              rotate_left
              ·intro w'
               go_simp
               with_reducible rfl
              rotate_left
              ·simp only [Act.put, List.setIfInBounds_toArray, List.set_cons_zero, List.set_cons_succ, i64_w, i32_w]
               rfl
              refine pure_ (i := 10) (N := some 53) (v := ?_) (a' := ?_) #[true, true, true, true, true, true, true, true, true, true, true, false] rfl rfl (any_of HT_.out (by kernel_rfl)) (fun _ _ _ h => h) (Or.inl ⟨by rfl, ?_⟩) ?_ ?_
              rotate_left
              ·intro w'
               go_simp
               with_reducible rfl
              rotate_left
              ·simp only [Act.put, List.setIfInBounds_toArray, List.set_cons_zero, List.set_cons_succ, i64_w, i32_w]
               rfl
              refine pure_ (i := 11) (N := some 12) (v := ?_) (a' := ?_) #[true, true, true, true, true, true, true, true, true, true, true, true] rfl rfl (any_of HT_.out (by kernel_rfl)) (fun _ _ _ h => h) (Or.inl ⟨by rfl, ?_⟩) ?_ ?_
              rotate_left
              ·intro w'
               go_simp
               with_reducible rfl
              rotate_left
              ·simp only [Act.put, List.setIfInBounds_toArray, List.set_cons_zero, List.set_cons_succ, i64_w, i32_w]
               rfl
              refine done_ (done_of HT_.out (by kernel_rfl)) ?_
              have p58 : 0 ≤ ((ji55) : Int) := of_decide_eq_true (by first | (with_reducible assumption) | assumption)
              have q58 : ((ji55) : Int) < ((x9_3.length : Int) : Int) := of_decide_eq_true (by first | (with_reducible assumption) | assumption)
              obtain ⟨go58, co58, eo58, gb58, gl58, cl58, HG58⟩ := Kd.R_form HO_9.out (by omega)
              (first | cases eo58 | (injection eo58 with ea_ en_ ec_; (first | subst ea_ | (injection ea_ with ea_; subst ea_)); subst ec_; clear en_))
              have GB58 := Aside0.mk gb58
              have GG58 := Aside0.mk HG58
              clear gb58 gl58 HG58
              obtain ⟨hx58_0, hf58_0⟩ := Kd.R_celln 0 HO_9.out ((ji55) : Int) p58 q58
              replace p58 := eq_true p58
              replace q58 := eq_true q58
              obtain ⟨hy62_, hz62_⟩ := Kd.R_celln 0 HO_9.out ((ji55) : Int) (of_decide_eq_true (by first | (with_reducible assumption) | assumption)) (of_decide_eq_true (by first | (with_reducible assumption) | assumption))
              have HP62 := Kd.R_putg HO_9.out ((ji55) : Int) ((wrap64 ((wrap64 ((wrap64 (t146 + (wrap64 (x6_19 * t147)))) + x10_3)) + 10)) % 256)
              try go_wp2_with (first | ((with_reducible refine gate_store (t := 5) (p := 69) rfl ?_); refine store_event (t := 5) (p := 69) (v := ?vo_w63) (w1 := (w61.setCell ⟨go58, ((ji55) : Int).toNat, none⟩ (.int .u8 ((wrap64 ((wrap64 ((wrap64 (t146 + (wrap64 (x6_19 * t147)))) + x10_3)) + 10)) % 256)))) ?hg ?ho ?hn ?hr ?_; (case ho => rfl); (case hg => rfl); (case hn => rfl); (case hr => first | (go_simp; done) | (go_simp; rfl)); intro w63 hw; have hg : w61.grownBy w63 (some go58) := (by rw [hw]; exact HP62.2); have hp_ : Kd.R (Kd.int .u8) 5 w63 w.heap.size (fun k_ => (w.heap.size ≤ k_)) (.slice (some ⟨go58, 0, none⟩) x9_3.length co58) y149 := (by rw [hw, Ny149.out]; exact HP62.1); clear HP62; have n0_ := Aside0.mk (hp_); have n1_ := Aside0.mk (Kd.V_afterv (v := (.slice (some ⟨go58, 0, none⟩) x9_3.length co58)) (v1 := (.slice (some ⟨go58, 0, none⟩) x9_3.length co58)) (ok := (fun k_ => ((P0_1_ k_ ∨ P1_1_ k_) ∨ w.heap.size ≤ k_) ∧ k_ ≠ gb131 ∧ k_ ≠ gb132 ∧ k_ ≠ gb133)) (by (with_reducible repeat (first | apply Kd.V_alloc | apply Kd.V_drewN | apply Kd.V_drew)); exact Kd.V_mono HO_132001.out (fun _ hk => ⟨⟨hk.1, ⟨hk.2.2.1, ⟨hk.2.2.2.1, hk.2.2.2.2⟩⟩⟩, hk.2.1⟩)) hg (.inl rfl)); have n2_ := Aside0.mk (Kd.V_afterv (v := (.slice (some ⟨go58, 0, none⟩) x9_3.length co58)) (v1 := (.slice (some ⟨go58, 0, none⟩) x9_3.length co58)) (ok := (fun k_ => ((P0_1_ k_ ∨ P1_1_ k_) ∨ w.heap.size ≤ k_) ∧ k_ ≠ gb131 ∧ k_ ≠ gb132 ∧ k_ ≠ gb133)) (by (with_reducible repeat (first | apply Kd.V_alloc | apply Kd.V_drewN | apply Kd.V_drew)); exact Kd.V_mono HO_133001.out (fun _ hk => ⟨⟨hk.1, ⟨hk.2.2.1, ⟨hk.2.2.2.1, hk.2.2.2.2⟩⟩⟩, hk.2.1⟩)) hg (.inl rfl)); have n3_ := Aside0.mk (blk_grown (g := gb131) (o := .cells #[.bool x132000_3, .slice Ao36 x132001_3.length co36, .int .i64 x132002_3] 25 (0, 0)) (S.b BK131.out) hg (Kd.R_ne HO_9.out BK131.out (by decide))); have n4_ := Aside0.mk (blk_grown (g := gb132) (o := .cells #[.bool x133000_3, .slice Ao37 x133001_3.length co37, .int .i64 x133002_3] 25 (0, 0)) (S.b BK132.out) hg (Kd.R_ne HO_9.out BK132.out (by decide))); have n5_ := Aside0.mk (blk_grown (g := gb133) (o := .cells #[.bool false, .slice none 0 0, .int .i64 0] 25 (0, 0)) (S.b BK133.out) hg (Kd.R_ne HO_9.out BK133.out (by decide))); have n6_ := Aside0.mk ((by rw [hw]; exact below_set (HB.out) GB58.out : Below w.heap.size w w63)); clear HO_9; clear HO_132001; clear HO_133001; clear BK131; clear BK132; clear BK133; clear HB; have HO_9 := n0_; have HO_132001 := n1_; have HO_133001 := n2_; have BK131 := n3_; have BK132 := n4_; have BK133 := n5_; have HB := n6_; clear n0_ n1_ n2_ n3_ n4_ n5_ n6_; clear hg hw hp_))
              go_roundg k3
              case measure => have := HJ3.out; have := HJ19.out; have := HK3.out; omega
              case rel => exact ⟨(y149), ((-1)), (wrap64 (x11_3 + 1)), (by first | rfl | (simp; done) | (simp [*]; done)), (by first | rfl | (simp; done) | (simp [*]; done)), H', ⟨by have := HJ3.out; have := HJ19.out; have := HK3.out; omega⟩, ⟨S.r HO_9.out⟩, ⟨by (with_reducible repeat (first | apply Kd.V_alloc | apply Kd.V_drewN | apply Kd.V_drew)); exact Kd.V_mono HO_132001.out (fun _ hk => ⟨hk.1.1, ⟨hk.2, ⟨hk.1.2.1, ⟨hk.1.2.2.1, hk.1.2.2.2⟩⟩⟩⟩)⟩, ⟨by (with_reducible repeat (first | apply Kd.V_alloc | apply Kd.V_drewN | apply Kd.V_drew)); exact Kd.V_mono HO_133001.out (fun _ hk => ⟨hk.1.1, ⟨hk.2, ⟨hk.1.2.1, ⟨hk.1.2.2.1, hk.1.2.2.2⟩⟩⟩⟩)⟩, ⟨S.b BK131.out⟩, ⟨S.b BK132.out⟩, ⟨S.b BK133.out⟩, ⟨by repeat (first | (with_reducible first | exact HB.out | apply below_alloc | apply pw_below_drewN | apply below_drew1 | refine below_set ?_ GE131.out | refine below_set ?_ GE132.out | refine below_set ?_ GE133.out) | exact HB.out)⟩⟩
             ·rw [if_neg c57] at H
              exact absurd H (by simp)
            ·rw [if_neg c56] at H
             exact absurd H (by simp)
          ·rw [if_neg c44] at H
           have c44b0 : decide ((wrap64 ((wrap64 (t146 + (wrap64 (x6_19 * t147)))) + x10_3)) < 0) = false := decide_eq_false c44
           clear c44
           by_cases c64 : (wrap64 ((wrap64 (t146 + (wrap64 (x6_19 * t147)))) + x10_3)) > 9
           ·rw [if_pos c64] at H
            have c64b0 : decide (9 < (wrap64 ((wrap64 (t146 + (wrap64 (x6_19 * t147)))) + x10_3))) = true := decide_eq_true c64
            clear c64
            obtain ⟨ji65, hji65⟩ : ∃ j_ : Int, (wrap64 ((wrap64 (t135 + 1)) - x11_3)) = j_ := ⟨_, rfl⟩
            replace H : (if 0 ≤ (ji65) then (if (ji65) < (x9_3.length : Int) then (dec_Add.l0 k3 x6_19 t135 t136 (x9_3.set ((ji65) : Int).toNat ((wrap64 ((wrap64 ((wrap64 (t146 + (wrap64 (x6_19 * t147)))) + x10_3)) - 10)) % 256)) 1 (wrap64 (x11_3 + 1)) x132000_3 x132001_3 x132002_3 x133000_3 x133001_3 x133002_3) else (none)) else (none)) = some (r1, r2, r3, r4) := by first | (rw [hji65] at H; exact H) | (simp only [hji65] at H ⊢; exact H)
            (try rw [hji65] at A42)
            (try rw [hji65] at A43)
            have hji65w : (IntKind.i64.wrap ((wrap64 (t135 + 1)) - x11_3)) = ji65 := (i64_w _).trans hji65
            by_cases c66 : 0 ≤ (ji65)
            ·rw [if_pos c66] at H
             have c66b0 : decide (0 ≤ (ji65)) = true := decide_eq_true c66
             clear c66
             by_cases c67 : (ji65) < (x9_3.length : Int)
             ·rw [if_pos c67] at H
              have c67b0 : decide ((ji65) < (x9_3.length : Int)) = true := decide_eq_true c67
              clear c67
              obtain ⟨y150, hy150⟩ : ∃ y_ : List Int, y_ = (x9_3.set ((ji65) : Int).toNat ((wrap64 ((wrap64 ((wrap64 (t146 + (wrap64 (x6_19 * t147)))) + x10_3)) - 10)) % 256)) := ⟨_, rfl⟩
              replace H : (dec_Add.l0 k3 x6_19 t135 t136 y150 1 (wrap64 (x11_3 + 1)) x132000_3 x132001_3 x132002_3 x133000_3 x133001_3 x133002_3) = some (r1, r2, r3, r4) := by first | (rw [hy150]; with_reducible exact H) | (have H2_ := (Option.bind_some _ _).symm.trans H; rw [hy150]; with_reducible exact H2_) | (have H2_ := (Option.bind_some _ _).symm.trans H; with_reducible exact H2_) | with_reducible exact H | (rw [hy150]; exact H) | exact H
              have Ny150 := Aside0.mk hy150
              clear hy150
              have H' := Aside0.mk H
              clear H
              try go_wp2
              have n0_ := Aside0.mk (Kd.R_drew HO_9.out)
              have n1_ := Aside0.mk (Kd.V_drew HO_132001.out)
              have n2_ := Aside0.mk (Kd.V_drew HO_133001.out)
              have n3_ := Aside0.mk (blk_drew BK131.out)
              have n4_ := Aside0.mk (blk_drew BK132.out)
              have n5_ := Aside0.mk (blk_drew BK133.out)
              have n6_ := Aside0.mk (below_drew1 HB.out)
              clear HO_9
              clear HO_132001
              clear HO_133001
              clear BK131
              clear BK132
              clear BK133
              clear HB
              have HO_9 := n0_
              have HO_132001 := n1_
              have HO_133001 := n2_
              have BK131 := n3_
              have BK132 := n4_
              have BK133 := n5_
              have HB := n6_
              clear n0_ n1_ n2_ n3_ n4_ n5_ n6_
              refine start_ (n := 12) (S := fun w' => w'.cell? ⟨gb131, 0, none⟩ = some (.bool x132000_3) ∧ w'.cell? ⟨gb131, 1, none⟩ = some (.slice Ao36 x132001_3.length co36) ∧ w'.cell? ⟨gb131, 2, none⟩ = some (.int .i64 x132002_3) ∧ w'.cell? ⟨gb132, 0, none⟩ = some (.bool x133000_3) ∧ w'.cell? ⟨gb132, 1, none⟩ = some (.slice Ao37 x133001_3.length co37) ∧ w'.cell? ⟨gb132, 2, none⟩ = some (.int .i64 x133002_3)) (ds := []) #[false, false, false, false, false, false, false, false, false, false, false, false] (by kernel_rfl) rfl rfl ⟨(blk_cell BK131.out 0).trans rfl, (blk_cell BK131.out 1).trans rfl, (blk_cell BK131.out 2).trans rfl, (blk_cell BK132.out 0).trans rfl, (blk_cell BK132.out 1).trans rfl, (blk_cell BK132.out 2).trans rfl⟩ (fun hHeld => ?_); refine with_tabW dec_Add.tab12 dec_Add.bits12 (fun HT_ HW_ => ?_)
              generalize wr.drew = w69 at HO_9 HO_132001 HO_133001 BK131 BK132 BK133 HB hHeld ⊢
              refine pure_ (i := 1) (N := some 44) (v := ?_) (a' := ?_) #[false, true, false, false, false, false, false, false, false, false, false, false] rfl rfl (any_of HT_.out (by kernel_rfl)) (fun _ _ _ h => h) (Or.inl ⟨by rfl, ?_⟩) ?_ ?_
              rotate_left
              ·intro w'
               go_simp
               with_reducible rfl
              rotate_left
              ·simp only [Act.put, List.setIfInBounds_toArray, List.set_cons_zero, List.set_cons_succ, i64_w, i32_w]
               rfl
              refine pure_ (i := 3) (N := some 46) (v := ?_) (a' := ?_) #[false, true, false, true, false, false, false, false, false, false, false, false] rfl rfl (any_of HT_.out (by kernel_rfl)) (fun _ _ _ h => h) (Or.inl ⟨by rfl, ?_⟩) ?_ ?_
              rotate_left
              ·intro w'
               go_simp
               with_reducible rfl
              rotate_left
              ·simp only [Act.put, List.setIfInBounds_toArray, List.set_cons_zero, List.set_cons_succ, i64_w, i32_w]
               rfl
              refine pure_ (i := 5) (N := some 48) (v := ?_) (a' := ?_) #[false, true, false, true, false, true, false, false, false, false, false, false] rfl rfl (any_of HT_.out (by kernel_rfl)) (fun _ _ _ h => h) (Or.inl ⟨by rfl, ?_⟩) ?_ ?_
              rotate_left
              ·intro w'
               go_simp
               with_reducible rfl
              rotate_left
              ·simp only [Act.put, List.setIfInBounds_toArray, List.set_cons_zero, List.set_cons_succ, i64_w, i32_w]
               rfl
              refine pure_ (i := 9) (N := some 52) (v := ?_) (a' := ?_) #[false, true, false, true, false, true, false, false, false, true, false, false] rfl rfl (any_of HT_.out (by kernel_rfl)) (fun _ _ _ h => h) (Or.inl ⟨by rfl, ?_⟩) ?_ ?_
              rotate_left
              ·intro w'
               go_simp
               with_reducible rfl
              rotate_left
              ·simp only [Act.put, List.setIfInBounds_toArray, List.set_cons_zero, List.set_cons_succ, i64_w, i32_w]
               rfl
              refine take_ (i := 0) (N := some 43) (v := ?_) (a' := ?_) #[true, true, false, true, false, true, false, false, false, true, false, false] rfl rfl (take_ofW HT_.out HW_.out (by kernel_rfl)) (fun _ _ _ h => h) (Or.inl ⟨by rfl, ?_⟩) hHeld ?_ ?_
              rotate_left
              ·rintro w' ⟨s0, s1, s2, s3, s4, s5⟩
               go_simp
               with_reducible rfl
              rotate_left
              ·simp only [Act.put, List.setIfInBounds_toArray, List.set_cons_zero, List.set_cons_succ, i64_w, i32_w]
               rfl
              refine take_ (i := 4) (N := some 47) (v := ?_) (a' := ?_) #[true, true, false, true, true, true, false, false, false, true, false, false] rfl rfl (take_ofW HT_.out HW_.out (by kernel_rfl)) (fun _ _ _ h => h) (Or.inl ⟨by rfl, ?_⟩) hHeld ?_ ?_
              rotate_left
              ·rintro w' ⟨s0, s1, s2, s3, s4, s5⟩
               go_simp
               with_reducible rfl
              rotate_left
              ·simp only [Act.put, List.setIfInBounds_toArray, List.set_cons_zero, List.set_cons_succ, i64_w, i32_w]
               rfl
              refine one_ (i := 2) (N := some 45) #[true, true, true, true, true, true, false, false, false, true, false, false] rfl rfl (one_of HT_.out (by kernel_rfl)) (by decide) (fun K hK => ?_)
              refine goes_ Try.func27 (by kernel_rfl) rfl #[.agg #[.bool x132000_3, .slice Ao36 x132001_3.length co36, .int .i64 x132002_3], .int .i64 x11_3] (by rfl) rfl rfl (by (try simp only [List.map_toArray, List.map_cons, List.map_nil]); first | done | rfl | (simp only [List.length_drop, List.length_take]; rfl)) ?_
              with_reducible refine (dec_Dec_at.calls x132000_3 _ _ x132001_3 x132002_3 x11_3 t146 _ ?side1 ?side2 A42.out).mono ?_
              (case side1 => repeat (first | exact (Kd.V_reads' HO_132001.out).2.2 | (with_reducible refine Kd.C_alloc ?_ _) | (with_reducible refine Kd.C_drewN ?_ _) | (with_reducible refine Kd.C_drew ?_)))
              (case side2 => exact (Kd.V_reads' HO_132001.out).2.1)
              rintro e w70 ⟨rfl, hb⟩
              refine ⟨_, rfl, ?_⟩
              have n0_ := Aside0.mk (Kd.R_below (S.r HO_9.out) hb)
              have n1_ := Aside0.mk (Kd.V_below (S.v HO_132001.out) hb)
              have n2_ := Aside0.mk (Kd.V_below (S.v HO_133001.out) hb)
              have n3_ := Aside0.mk (blk_below (g := gb131) (o := .cells #[.bool x132000_3, .slice Ao36 x132001_3.length co36, .int .i64 x132002_3] 25 (0, 0)) (S.b BK131.out) hb)
              have n4_ := Aside0.mk (blk_below (g := gb132) (o := .cells #[.bool x133000_3, .slice Ao37 x133001_3.length co37, .int .i64 x133002_3] 25 (0, 0)) (S.b BK132.out) hb)
              have n5_ := Aside0.mk (blk_below (g := gb133) (o := .cells #[.bool false, .slice none 0 0, .int .i64 0] 25 (0, 0)) (S.b BK133.out) hb)
              have n6_ := Aside0.mk (below_step (by repeat (first | (with_reducible first | exact HB.out | apply below_alloc | apply pw_below_drewN | apply below_drew1 | refine below_set ?_ GE131.out | refine below_set ?_ GE132.out | refine below_set ?_ GE133.out) | exact HB.out)) hb)
              clear HO_9
              clear HO_132001
              clear HO_133001
              clear BK131
              clear BK132
              clear BK133
              clear HB
              have HO_9 := n0_
              have HO_132001 := n1_
              have HO_133001 := n2_
              have BK131 := n3_
              have BK132 := n4_
              have BK133 := n5_
              have HB := n6_
              clear n0_ n1_ n2_ n3_ n4_ n5_ n6_
              (try clear hb)
              (try clear hb2)
              (try clear hk)
              (try clear hi)
              refine hK.out _ _ ⟨(blk_cell BK131.out 0).trans rfl, (blk_cell BK131.out 1).trans rfl, (blk_cell BK131.out 2).trans rfl, (blk_cell BK132.out 0).trans rfl, (blk_cell BK132.out 1).trans rfl, (blk_cell BK132.out 2).trans rfl⟩ (fun hHeld => ?_)
              clear hK K
              refine norm_ (a' := ?_) ?_ ?_
              rotate_left
              ·show Act.put _ (some 45) _ = _
               simp only [Act.put, List.setIfInBounds_toArray, List.set_cons_zero, List.set_cons_succ, i64_w, i32_w]
               rfl
              refine one_ (i := 6) (N := some 49) #[true, true, true, true, true, true, true, false, false, true, false, false] rfl rfl (one_of HT_.out (by kernel_rfl)) (by decide) (fun K hK => ?_)
              refine goes_ Try.func27 (by kernel_rfl) rfl #[.agg #[.bool x133000_3, .slice Ao37 x133001_3.length co37, .int .i64 x133002_3], .int .i64 x11_3] (by rfl) rfl rfl (by (try simp only [List.map_toArray, List.map_cons, List.map_nil]); first | done | rfl | (simp only [List.length_drop, List.length_take]; rfl)) ?_
              with_reducible refine (dec_Dec_at.calls x133000_3 _ _ x133001_3 x133002_3 x11_3 t147 _ ?side1 ?side2 A43.out).mono ?_
              (case side1 => repeat (first | exact (Kd.V_reads' HO_133001.out).2.2 | (with_reducible refine Kd.C_alloc ?_ _) | (with_reducible refine Kd.C_drewN ?_ _) | (with_reducible refine Kd.C_drew ?_)))
              (case side2 => exact (Kd.V_reads' HO_133001.out).2.1)
              rintro e w71 ⟨rfl, hb⟩
              refine ⟨_, rfl, ?_⟩
              have n0_ := Aside0.mk (Kd.R_below (S.r HO_9.out) hb)
              have n1_ := Aside0.mk (Kd.V_below (S.v HO_132001.out) hb)
              have n2_ := Aside0.mk (Kd.V_below (S.v HO_133001.out) hb)
              have n3_ := Aside0.mk (blk_below (g := gb131) (o := .cells #[.bool x132000_3, .slice Ao36 x132001_3.length co36, .int .i64 x132002_3] 25 (0, 0)) (S.b BK131.out) hb)
              have n4_ := Aside0.mk (blk_below (g := gb132) (o := .cells #[.bool x133000_3, .slice Ao37 x133001_3.length co37, .int .i64 x133002_3] 25 (0, 0)) (S.b BK132.out) hb)
              have n5_ := Aside0.mk (blk_below (g := gb133) (o := .cells #[.bool false, .slice none 0 0, .int .i64 0] 25 (0, 0)) (S.b BK133.out) hb)
              have n6_ := Aside0.mk (below_step (by repeat (first | (with_reducible first | exact HB.out | apply below_alloc | apply pw_below_drewN | apply below_drew1 | refine below_set ?_ GE131.out | refine below_set ?_ GE132.out | refine below_set ?_ GE133.out) | exact HB.out)) hb)
              clear HO_9
              clear HO_132001
              clear HO_133001
              clear BK131
              clear BK132
              clear BK133
              clear HB
              have HO_9 := n0_
              have HO_132001 := n1_
              have HO_133001 := n2_
              have BK131 := n3_
              have BK132 := n4_
              have BK133 := n5_
              have HB := n6_
              clear n0_ n1_ n2_ n3_ n4_ n5_ n6_
              (try clear hb)
              (try clear hb2)
              (try clear hk)
              (try clear hi)
              refine hK.out _ _ ⟨(blk_cell BK131.out 0).trans rfl, (blk_cell BK131.out 1).trans rfl, (blk_cell BK131.out 2).trans rfl, (blk_cell BK132.out 0).trans rfl, (blk_cell BK132.out 1).trans rfl, (blk_cell BK132.out 2).trans rfl⟩ (fun hHeld => ?_)
              clear hK K
              refine norm_ (a' := ?_) ?_ ?_
              rotate_left
              ·show Act.put _ (some 49) _ = _
               simp only [Act.put, List.setIfInBounds_toArray, List.set_cons_zero, List.set_cons_succ, i64_w, i32_w]
               rfl
              refine pure_ (i := 7) (N := some 50) (v := ?_) (a' := ?_) #[true, true, true, true, true, true, true, true, false, true, false, false] rfl rfl (any_of HT_.out (by kernel_rfl)) (fun _ _ _ h => h) (Or.inl ⟨by rfl, ?_⟩) ?_ ?_
              rotate_left
              ·intro w'
               go_simp
               with_reducible rfl
              rotate_left
              ·simp only [Act.put, List.setIfInBounds_toArray, List.set_cons_zero, List.set_cons_succ, i64_w, i32_w]
               rfl
              refine pure_ (i := 8) (N := some 51) (v := ?_) (a' := ?_) #[true, true, true, true, true, true, true, true, true, true, false, false] rfl rfl (any_of HT_.out (by kernel_rfl)) (fun _ _ _ h => h) (Or.inl ⟨by rfl, ?_⟩) ?_ ?_
              rotate_left
              ·intro w'
               go_simp
               with_reducible rfl
              rotate_left
              ·simp only [Act.put, List.setIfInBounds_toArray, List.set_cons_zero, List.set_cons_succ, i64_w, i32_w]
               rfl
              refine pure_ (i := 10) (N := some 53) (v := ?_) (a' := ?_) #[true, true, true, true, true, true, true, true, true, true, true, false] rfl rfl (any_of HT_.out (by kernel_rfl)) (fun _ _ _ h => h) (Or.inl ⟨by rfl, ?_⟩) ?_ ?_
              rotate_left
              ·intro w'
               go_simp
               with_reducible rfl
              rotate_left
              ·simp only [Act.put, List.setIfInBounds_toArray, List.set_cons_zero, List.set_cons_succ, i64_w, i32_w]
               rfl
              refine pure_ (i := 11) (N := some 12) (v := ?_) (a' := ?_) #[true, true, true, true, true, true, true, true, true, true, true, true] rfl rfl (any_of HT_.out (by kernel_rfl)) (fun _ _ _ h => h) (Or.inl ⟨by rfl, ?_⟩) ?_ ?_
              rotate_left
              ·intro w'
               go_simp
               with_reducible rfl
              rotate_left
              ·simp only [Act.put, List.setIfInBounds_toArray, List.set_cons_zero, List.set_cons_succ, i64_w, i32_w]
               rfl
              refine done_ (done_of HT_.out (by kernel_rfl)) ?_
              have p68 : 0 ≤ ((ji65) : Int) := of_decide_eq_true (by first | (with_reducible assumption) | assumption)
              have q68 : ((ji65) : Int) < ((x9_3.length : Int) : Int) := of_decide_eq_true (by first | (with_reducible assumption) | assumption)
              obtain ⟨go68, co68, eo68, gb68, gl68, cl68, HG68⟩ := Kd.R_form HO_9.out (by omega)
              (first | cases eo68 | (injection eo68 with ea_ en_ ec_; (first | subst ea_ | (injection ea_ with ea_; subst ea_)); subst ec_; clear en_))
              have GB68 := Aside0.mk gb68
              have GG68 := Aside0.mk HG68
              clear gb68 gl68 HG68
              obtain ⟨hx68_0, hf68_0⟩ := Kd.R_celln 0 HO_9.out ((ji65) : Int) p68 q68
              replace p68 := eq_true p68
              replace q68 := eq_true q68
              obtain ⟨hy72_, hz72_⟩ := Kd.R_celln 0 HO_9.out ((ji65) : Int) (of_decide_eq_true (by first | (with_reducible assumption) | assumption)) (of_decide_eq_true (by first | (with_reducible assumption) | assumption))
              have HP72 := Kd.R_putg HO_9.out ((ji65) : Int) ((wrap64 ((wrap64 ((wrap64 (t146 + (wrap64 (x6_19 * t147)))) + x10_3)) - 10)) % 256)
              try go_wp2_with (first | ((with_reducible refine gate_store (t := 5) (p := 69) rfl ?_); refine store_event (t := 5) (p := 69) (v := ?vo_w73) (w1 := (w71.setCell ⟨go68, ((ji65) : Int).toNat, none⟩ (.int .u8 ((wrap64 ((wrap64 ((wrap64 (t146 + (wrap64 (x6_19 * t147)))) + x10_3)) - 10)) % 256)))) ?hg ?ho ?hn ?hr ?_; (case ho => rfl); (case hg => rfl); (case hn => rfl); (case hr => first | (go_simp; done) | (go_simp; rfl)); intro w73 hw; have hg : w71.grownBy w73 (some go68) := (by rw [hw]; exact HP72.2); have hp_ : Kd.R (Kd.int .u8) 5 w73 w.heap.size (fun k_ => (w.heap.size ≤ k_)) (.slice (some ⟨go68, 0, none⟩) x9_3.length co68) y150 := (by rw [hw, Ny150.out]; exact HP72.1); clear HP72; have n0_ := Aside0.mk (hp_); have n1_ := Aside0.mk (Kd.V_afterv (v := (.slice (some ⟨go68, 0, none⟩) x9_3.length co68)) (v1 := (.slice (some ⟨go68, 0, none⟩) x9_3.length co68)) (ok := (fun k_ => ((P0_1_ k_ ∨ P1_1_ k_) ∨ w.heap.size ≤ k_) ∧ k_ ≠ gb131 ∧ k_ ≠ gb132 ∧ k_ ≠ gb133)) (by (with_reducible repeat (first | apply Kd.V_alloc | apply Kd.V_drewN | apply Kd.V_drew)); exact Kd.V_mono HO_132001.out (fun _ hk => ⟨⟨hk.1, ⟨hk.2.2.1, ⟨hk.2.2.2.1, hk.2.2.2.2⟩⟩⟩, hk.2.1⟩)) hg (.inl rfl)); have n2_ := Aside0.mk (Kd.V_afterv (v := (.slice (some ⟨go68, 0, none⟩) x9_3.length co68)) (v1 := (.slice (some ⟨go68, 0, none⟩) x9_3.length co68)) (ok := (fun k_ => ((P0_1_ k_ ∨ P1_1_ k_) ∨ w.heap.size ≤ k_) ∧ k_ ≠ gb131 ∧ k_ ≠ gb132 ∧ k_ ≠ gb133)) (by (with_reducible repeat (first | apply Kd.V_alloc | apply Kd.V_drewN | apply Kd.V_drew)); exact Kd.V_mono HO_133001.out (fun _ hk => ⟨⟨hk.1, ⟨hk.2.2.1, ⟨hk.2.2.2.1, hk.2.2.2.2⟩⟩⟩, hk.2.1⟩)) hg (.inl rfl)); have n3_ := Aside0.mk (blk_grown (g := gb131) (o := .cells #[.bool x132000_3, .slice Ao36 x132001_3.length co36, .int .i64 x132002_3] 25 (0, 0)) (S.b BK131.out) hg (Kd.R_ne HO_9.out BK131.out (by decide))); have n4_ := Aside0.mk (blk_grown (g := gb132) (o := .cells #[.bool x133000_3, .slice Ao37 x133001_3.length co37, .int .i64 x133002_3] 25 (0, 0)) (S.b BK132.out) hg (Kd.R_ne HO_9.out BK132.out (by decide))); have n5_ := Aside0.mk (blk_grown (g := gb133) (o := .cells #[.bool false, .slice none 0 0, .int .i64 0] 25 (0, 0)) (S.b BK133.out) hg (Kd.R_ne HO_9.out BK133.out (by decide))); have n6_ := Aside0.mk ((by rw [hw]; exact below_set (HB.out) GB68.out : Below w.heap.size w w73)); clear HO_9; clear HO_132001; clear HO_133001; clear BK131; clear BK132; clear BK133; clear HB; have HO_9 := n0_; have HO_132001 := n1_; have HO_133001 := n2_; have BK131 := n3_; have BK132 := n4_; have BK133 := n5_; have HB := n6_; clear n0_ n1_ n2_ n3_ n4_ n5_ n6_; clear hg hw hp_))
              go_roundg k3
              case measure => have := HJ3.out; have := HJ19.out; have := HK3.out; omega
              case rel => exact ⟨(y150), (1), (wrap64 (x11_3 + 1)), (by first | rfl | (simp; done) | (simp [*]; done)), (by first | rfl | (simp; done) | (simp [*]; done)), H', ⟨by have := HJ3.out; have := HJ19.out; have := HK3.out; omega⟩, ⟨S.r HO_9.out⟩, ⟨by (with_reducible repeat (first | apply Kd.V_alloc | apply Kd.V_drewN | apply Kd.V_drew)); exact Kd.V_mono HO_132001.out (fun _ hk => ⟨hk.1.1, ⟨hk.2, ⟨hk.1.2.1, ⟨hk.1.2.2.1, hk.1.2.2.2⟩⟩⟩⟩)⟩, ⟨by (with_reducible repeat (first | apply Kd.V_alloc | apply Kd.V_drewN | apply Kd.V_drew)); exact Kd.V_mono HO_133001.out (fun _ hk => ⟨hk.1.1, ⟨hk.2, ⟨hk.1.2.1, ⟨hk.1.2.2.1, hk.1.2.2.2⟩⟩⟩⟩)⟩, ⟨S.b BK131.out⟩, ⟨S.b BK132.out⟩, ⟨S.b BK133.out⟩, ⟨by repeat (first | (with_reducible first | exact HB.out | apply below_alloc | apply pw_below_drewN | apply below_drew1 | refine below_set ?_ GE131.out | refine below_set ?_ GE132.out | refine below_set ?_ GE133.out) | exact HB.out)⟩⟩
             ·rw [if_neg c67] at H
              exact absurd H (by simp)
            ·rw [if_neg c66] at H
             exact absurd H (by simp)
           ·rw [if_neg c64] at H
            have c64b0 : decide (9 < (wrap64 ((wrap64 (t146 + (wrap64 (x6_19 * t147)))) + x10_3))) = false := decide_eq_false c64
            clear c64
            obtain ⟨ji74, hji74⟩ : ∃ j_ : Int, (wrap64 ((wrap64 (t135 + 1)) - x11_3)) = j_ := ⟨_, rfl⟩
            replace H : (if 0 ≤ (ji74) then (if (ji74) < (x9_3.length : Int) then (dec_Add.l0 k3 x6_19 t135 t136 (x9_3.set ((ji74) : Int).toNat ((wrap64 ((wrap64 (t146 + (wrap64 (x6_19 * t147)))) + x10_3)) % 256)) 0 (wrap64 (x11_3 + 1)) x132000_3 x132001_3 x132002_3 x133000_3 x133001_3 x133002_3) else (none)) else (none)) = some (r1, r2, r3, r4) := by first | (rw [hji74] at H; exact H) | (simp only [hji74] at H ⊢; exact H)
            (try rw [hji74] at A42)
            (try rw [hji74] at A43)
            have hji74w : (IntKind.i64.wrap ((wrap64 (t135 + 1)) - x11_3)) = ji74 := (i64_w _).trans hji74
            by_cases c75 : 0 ≤ (ji74)
            ·rw [if_pos c75] at H
             have c75b0 : decide (0 ≤ (ji74)) = true := decide_eq_true c75
             clear c75
             by_cases c76 : (ji74) < (x9_3.length : Int)
             ·rw [if_pos c76] at H
              have c76b0 : decide ((ji74) < (x9_3.length : Int)) = true := decide_eq_true c76
              clear c76
              obtain ⟨y151, hy151⟩ : ∃ y_ : List Int, y_ = (x9_3.set ((ji74) : Int).toNat ((wrap64 ((wrap64 (t146 + (wrap64 (x6_19 * t147)))) + x10_3)) % 256)) := ⟨_, rfl⟩
              replace H : (dec_Add.l0 k3 x6_19 t135 t136 y151 0 (wrap64 (x11_3 + 1)) x132000_3 x132001_3 x132002_3 x133000_3 x133001_3 x133002_3) = some (r1, r2, r3, r4) := by first | (rw [hy151]; with_reducible exact H) | (have H2_ := (Option.bind_some _ _).symm.trans H; rw [hy151]; with_reducible exact H2_) | (have H2_ := (Option.bind_some _ _).symm.trans H; with_reducible exact H2_) | with_reducible exact H | (rw [hy151]; exact H) | exact H
              have Ny151 := Aside0.mk hy151
              clear hy151
              have H' := Aside0.mk H
              clear H
              try go_wp2
              have n0_ := Aside0.mk (Kd.R_drew HO_9.out)
              have n1_ := Aside0.mk (Kd.V_drew HO_132001.out)
              have n2_ := Aside0.mk (Kd.V_drew HO_133001.out)
              have n3_ := Aside0.mk (blk_drew BK131.out)
              have n4_ := Aside0.mk (blk_drew BK132.out)
              have n5_ := Aside0.mk (blk_drew BK133.out)
              have n6_ := Aside0.mk (below_drew1 HB.out)
              clear HO_9
              clear HO_132001
              clear HO_133001
              clear BK131
              clear BK132
              clear BK133
              clear HB
              have HO_9 := n0_
              have HO_132001 := n1_
              have HO_133001 := n2_
              have BK131 := n3_
              have BK132 := n4_
              have BK133 := n5_
              have HB := n6_
              clear n0_ n1_ n2_ n3_ n4_ n5_ n6_
              refine start_ (n := 12) (S := fun w' => w'.cell? ⟨gb131, 0, none⟩ = some (.bool x132000_3) ∧ w'.cell? ⟨gb131, 1, none⟩ = some (.slice Ao36 x132001_3.length co36) ∧ w'.cell? ⟨gb131, 2, none⟩ = some (.int .i64 x132002_3) ∧ w'.cell? ⟨gb132, 0, none⟩ = some (.bool x133000_3) ∧ w'.cell? ⟨gb132, 1, none⟩ = some (.slice Ao37 x133001_3.length co37) ∧ w'.cell? ⟨gb132, 2, none⟩ = some (.int .i64 x133002_3)) (ds := []) #[false, false, false, false, false, false, false, false, false, false, false, false] (by kernel_rfl) rfl rfl ⟨(blk_cell BK131.out 0).trans rfl, (blk_cell BK131.out 1).trans rfl, (blk_cell BK131.out 2).trans rfl, (blk_cell BK132.out 0).trans rfl, (blk_cell BK132.out 1).trans rfl, (blk_cell BK132.out 2).trans rfl⟩ (fun hHeld => ?_); refine with_tabW dec_Add.tab12 dec_Add.bits12 (fun HT_ HW_ => ?_)
              generalize wr.drew = w78 at HO_9 HO_132001 HO_133001 BK131 BK132 BK133 HB hHeld ⊢
              refine pure_ (i := 1) (N := some 44) (v := ?_) (a' := ?_) #[false, true, false, false, false, false, false, false, false, false, false, false] rfl rfl (any_of HT_.out (by kernel_rfl)) (fun _ _ _ h => h) (Or.inl ⟨by rfl, ?_⟩) ?_ ?_
              rotate_left
              ·intro w'
               go_simp
               with_reducible rfl
              rotate_left
              ·simp only [Act.put, List.setIfInBounds_toArray, List.set_cons_zero, List.set_cons_succ, i64_w, i32_w]
               rfl
              refine pure_ (i := 3) (N := some 46) (v := ?_) (a' := ?_) #[false, true, false, true, false, false, false, false, false, false, false, false] rfl rfl (any_of HT_.out (by kernel_rfl)) (fun _ _ _ h => h) (Or.inl ⟨by rfl, ?_⟩) ?_ ?_
              rotate_left
              ·intro w'
               go_simp
               with_reducible rfl
              rotate_left
              ·simp only [Act.put, List.setIfInBounds_toArray, List.set_cons_zero, List.set_cons_succ, i64_w, i32_w]
               rfl
              refine pure_ (i := 5) (N := some 48) (v := ?_) (a' := ?_) #[false, true, false, true, false, true, false, false, false, false, false, false] rfl rfl (any_of HT_.out (by kernel_rfl)) (fun _ _ _ h => h) (Or.inl ⟨by rfl, ?_⟩) ?_ ?_
              rotate_left
              ·intro w'
               go_simp
               with_reducible rfl
              rotate_left
              ·simp only [Act.put, List.setIfInBounds_toArray, List.set_cons_zero, List.set_cons_succ, i64_w, i32_w]
               rfl
              refine pure_ (i := 9) (N := some 52) (v := ?_) (a' := ?_) #[false, true, false, true, false, true, false, false, false, true, false, false] rfl rfl (any_of HT_.out (by kernel_rfl)) (fun _ _ _ h => h) (Or.inl ⟨by rfl, ?_⟩) ?_ ?_
              rotate_left
              ·intro w'
               go_simp
               with_reducible rfl
              rotate_left
              ·simp only [Act.put, List.setIfInBounds_toArray, List.set_cons_zero, List.set_cons_succ, i64_w, i32_w]
               rfl
              refine take_ (i := 0) (N := some 43) (v := ?_) (a' := ?_) #[true, true, false, true, false, true, false, false, false, true, false, false] rfl rfl (take_ofW HT_.out HW_.out (by kernel_rfl)) (fun _ _ _ h => h) (Or.inl ⟨by rfl, ?_⟩) hHeld ?_ ?_
              rotate_left
              ·rintro w' ⟨s0, s1, s2, s3, s4, s5⟩
               go_simp
               with_reducible rfl
              rotate_left
              ·simp only [Act.put, List.setIfInBounds_toArray, List.set_cons_zero, List.set_cons_succ, i64_w, i32_w]
               rfl
              refine take_ (i := 4) (N := some 47) (v := ?_) (a' := ?_) #[true, true, false, true, true, true, false, false, false, true, false, false] rfl rfl (take_ofW HT_.out HW_.out (by kernel_rfl)) (fun _ _ _ h => h) (Or.inl ⟨by rfl, ?_⟩) hHeld ?_ ?_
              rotate_left
              ·rintro w' ⟨s0, s1, s2, s3, s4, s5⟩
               go_simp
               with_reducible rfl
              rotate_left
              ·simp only [Act.put, List.setIfInBounds_toArray, List.set_cons_zero, List.set_cons_succ, i64_w, i32_w]
               rfl
              refine one_ (i := 2) (N := some 45) #[true, true, true, true, true, true, false, false, false, true, false, false] rfl rfl (one_of HT_.out (by kernel_rfl)) (by decide) (fun K hK => ?_)
              refine goes_ Try.func27 (by kernel_rfl) rfl #[.agg #[.bool x132000_3, .slice Ao36 x132001_3.length co36, .int .i64 x132002_3], .int .i64 x11_3] (by rfl) rfl rfl (by (try simp only [List.map_toArray, List.map_cons, List.map_nil]); first | done | rfl | (simp only [List.length_drop, List.length_take]; rfl)) ?_
              with_reducible refine (dec_Dec_at.calls x132000_3 _ _ x132001_3 x132002_3 x11_3 t146 _ ?side1 ?side2 A42.out).mono ?_
              (case side1 => repeat (first | exact (Kd.V_reads' HO_132001.out).2.2 | (with_reducible refine Kd.C_alloc ?_ _) | (with_reducible refine Kd.C_drewN ?_ _) | (with_reducible refine Kd.C_drew ?_)))
              (case side2 => exact (Kd.V_reads' HO_132001.out).2.1)
              rintro e w79 ⟨rfl, hb⟩
              refine ⟨_, rfl, ?_⟩
              have n0_ := Aside0.mk (Kd.R_below (S.r HO_9.out) hb)
              have n1_ := Aside0.mk (Kd.V_below (S.v HO_132001.out) hb)
              have n2_ := Aside0.mk (Kd.V_below (S.v HO_133001.out) hb)
              have n3_ := Aside0.mk (blk_below (g := gb131) (o := .cells #[.bool x132000_3, .slice Ao36 x132001_3.length co36, .int .i64 x132002_3] 25 (0, 0)) (S.b BK131.out) hb)
              have n4_ := Aside0.mk (blk_below (g := gb132) (o := .cells #[.bool x133000_3, .slice Ao37 x133001_3.length co37, .int .i64 x133002_3] 25 (0, 0)) (S.b BK132.out) hb)
              have n5_ := Aside0.mk (blk_below (g := gb133) (o := .cells #[.bool false, .slice none 0 0, .int .i64 0] 25 (0, 0)) (S.b BK133.out) hb)
              have n6_ := Aside0.mk (below_step (by repeat (first | (with_reducible first | exact HB.out | apply below_alloc | apply pw_below_drewN | apply below_drew1 | refine below_set ?_ GE131.out | refine below_set ?_ GE132.out | refine below_set ?_ GE133.out) | exact HB.out)) hb)
              clear HO_9
              clear HO_132001
              clear HO_133001
              clear BK131
              clear BK132
              clear BK133
              clear HB
              have HO_9 := n0_
              have HO_132001 := n1_
              have HO_133001 := n2_
              have BK131 := n3_
              have BK132 := n4_
              have BK133 := n5_
              have HB := n6_
              clear n0_ n1_ n2_ n3_ n4_ n5_ n6_
              (try clear hb)
              (try clear hb2)
              (try clear hk)
              (try clear hi)
              refine hK.out _ _ ⟨(blk_cell BK131.out 0).trans rfl, (blk_cell BK131.out 1).trans rfl, (blk_cell BK131.out 2).trans rfl, (blk_cell BK132.out 0).trans rfl, (blk_cell BK132.out 1).trans rfl, (blk_cell BK132.out 2).trans rfl⟩ (fun hHeld => ?_)
              clear hK K
              refine norm_ (a' := ?_) ?_ ?_
              rotate_left
              ·show Act.put _ (some 45) _ = _
               simp only [Act.put, List.setIfInBounds_toArray, List.set_cons_zero, List.set_cons_succ, i64_w, i32_w]
               rfl
              refine one_ (i := 6) (N := some 49) #[true, true, true, true, true, true, true, false, false, true, false, false] rfl rfl (one_of HT_.out (by kernel_rfl)) (by decide) (fun K hK => ?_)
              refine goes_ Try.func27 (by kernel_rfl) rfl #[.agg #[.bool x133000_3, .slice Ao37 x133001_3.length co37, .int .i64 x133002_3], .int .i64 x11_3] (by rfl) rfl rfl (by (try simp only [List.map_toArray, List.map_cons, List.map_nil]); first | done | rfl | (simp only [List.length_drop, List.length_take]; rfl)) ?_
              with_reducible refine (dec_Dec_at.calls x133000_3 _ _ x133001_3 x133002_3 x11_3 t147 _ ?side1 ?side2 A43.out).mono ?_
              (case side1 => repeat (first | exact (Kd.V_reads' HO_133001.out).2.2 | (with_reducible refine Kd.C_alloc ?_ _) | (with_reducible refine Kd.C_drewN ?_ _) | (with_reducible refine Kd.C_drew ?_)))
              (case side2 => exact (Kd.V_reads' HO_133001.out).2.1)
              rintro e w80 ⟨rfl, hb⟩
              refine ⟨_, rfl, ?_⟩
              have n0_ := Aside0.mk (Kd.R_below (S.r HO_9.out) hb)
              have n1_ := Aside0.mk (Kd.V_below (S.v HO_132001.out) hb)
              have n2_ := Aside0.mk (Kd.V_below (S.v HO_133001.out) hb)
              have n3_ := Aside0.mk (blk_below (g := gb131) (o := .cells #[.bool x132000_3, .slice Ao36 x132001_3.length co36, .int .i64 x132002_3] 25 (0, 0)) (S.b BK131.out) hb)
              have n4_ := Aside0.mk (blk_below (g := gb132) (o := .cells #[.bool x133000_3, .slice Ao37 x133001_3.length co37, .int .i64 x133002_3] 25 (0, 0)) (S.b BK132.out) hb)
              have n5_ := Aside0.mk (blk_below (g := gb133) (o := .cells #[.bool false, .slice none 0 0, .int .i64 0] 25 (0, 0)) (S.b BK133.out) hb)
              have n6_ := Aside0.mk (below_step (by repeat (first | (with_reducible first | exact HB.out | apply below_alloc | apply pw_below_drewN | apply below_drew1 | refine below_set ?_ GE131.out | refine below_set ?_ GE132.out | refine below_set ?_ GE133.out) | exact HB.out)) hb)
              clear HO_9
              clear HO_132001
              clear HO_133001
              clear BK131
              clear BK132
              clear BK133
              clear HB
              have HO_9 := n0_
              have HO_132001 := n1_
              have HO_133001 := n2_
              have BK131 := n3_
              have BK132 := n4_
              have BK133 := n5_
              have HB := n6_
              clear n0_ n1_ n2_ n3_ n4_ n5_ n6_
              (try clear hb)
              (try clear hb2)
              (try clear hk)
              (try clear hi)
              refine hK.out _ _ ⟨(blk_cell BK131.out 0).trans rfl, (blk_cell BK131.out 1).trans rfl, (blk_cell BK131.out 2).trans rfl, (blk_cell BK132.out 0).trans rfl, (blk_cell BK132.out 1).trans rfl, (blk_cell BK132.out 2).trans rfl⟩ (fun hHeld => ?_)
              clear hK K
              refine norm_ (a' := ?_) ?_ ?_
              rotate_left
              ·show Act.put _ (some 49) _ = _
               simp only [Act.put, List.setIfInBounds_toArray, List.set_cons_zero, List.set_cons_succ, i64_w, i32_w]
               rfl
              refine pure_ (i := 7) (N := some 50) (v := ?_) (a' := ?_) #[true, true, true, true, true, true, true, true, false, true, false, false] rfl rfl (any_of HT_.out (by kernel_rfl)) (fun _ _ _ h => h) (Or.inl ⟨by rfl, ?_⟩) ?_ ?_
              rotate_left
              ·intro w'
               go_simp
               with_reducible rfl
              rotate_left
              ·simp only [Act.put, List.setIfInBounds_toArray, List.set_cons_zero, List.set_cons_succ, i64_w, i32_w]
               rfl
              refine pure_ (i := 8) (N := some 51) (v := ?_) (a' := ?_) #[true, true, true, true, true, true, true, true, true, true, false, false] rfl rfl (any_of HT_.out (by kernel_rfl)) (fun _ _ _ h => h) (Or.inl ⟨by rfl, ?_⟩) ?_ ?_
              rotate_left
              ·intro w'
               go_simp
               with_reducible rfl
              rotate_left
              ·simp only [Act.put, List.setIfInBounds_toArray, List.set_cons_zero, List.set_cons_succ, i64_w, i32_w]
               rfl
              refine pure_ (i := 10) (N := some 53) (v := ?_) (a' := ?_) #[true, true, true, true, true, true, true, true, true, true, true, false] rfl rfl (any_of HT_.out (by kernel_rfl)) (fun _ _ _ h => h) (Or.inl ⟨by rfl, ?_⟩) ?_ ?_
              rotate_left
              ·intro w'
               go_simp
               with_reducible rfl
              rotate_left
              ·simp only [Act.put, List.setIfInBounds_toArray, List.set_cons_zero, List.set_cons_succ, i64_w, i32_w]
               rfl
              refine pure_ (i := 11) (N := some 12) (v := ?_) (a' := ?_) #[true, true, true, true, true, true, true, true, true, true, true, true] rfl rfl (any_of HT_.out (by kernel_rfl)) (fun _ _ _ h => h) (Or.inl ⟨by rfl, ?_⟩) ?_ ?_
              rotate_left
              ·intro w'
               go_simp
               with_reducible rfl
              rotate_left
              ·simp only [Act.put, List.setIfInBounds_toArray, List.set_cons_zero, List.set_cons_succ, i64_w, i32_w]
               rfl
              refine done_ (done_of HT_.out (by kernel_rfl)) ?_
              have p77 : 0 ≤ ((ji74) : Int) := of_decide_eq_true (by first | (with_reducible assumption) | assumption)
              have q77 : ((ji74) : Int) < ((x9_3.length : Int) : Int) := of_decide_eq_true (by first | (with_reducible assumption) | assumption)
              obtain ⟨go77, co77, eo77, gb77, gl77, cl77, HG77⟩ := Kd.R_form HO_9.out (by omega)
              (first | cases eo77 | (injection eo77 with ea_ en_ ec_; (first | subst ea_ | (injection ea_ with ea_; subst ea_)); subst ec_; clear en_))
              have GB77 := Aside0.mk gb77
              have GG77 := Aside0.mk HG77
              clear gb77 gl77 HG77
              obtain ⟨hx77_0, hf77_0⟩ := Kd.R_celln 0 HO_9.out ((ji74) : Int) p77 q77
              replace p77 := eq_true p77
              replace q77 := eq_true q77
              obtain ⟨hy81_, hz81_⟩ := Kd.R_celln 0 HO_9.out ((ji74) : Int) (of_decide_eq_true (by first | (with_reducible assumption) | assumption)) (of_decide_eq_true (by first | (with_reducible assumption) | assumption))
              have HP81 := Kd.R_putg HO_9.out ((ji74) : Int) ((wrap64 ((wrap64 (t146 + (wrap64 (x6_19 * t147)))) + x10_3)) % 256)
              try go_wp2_with (first | ((with_reducible refine gate_store (t := 5) (p := 69) rfl ?_); refine store_event (t := 5) (p := 69) (v := ?vo_w82) (w1 := (w80.setCell ⟨go77, ((ji74) : Int).toNat, none⟩ (.int .u8 ((wrap64 ((wrap64 (t146 + (wrap64 (x6_19 * t147)))) + x10_3)) % 256)))) ?hg ?ho ?hn ?hr ?_; (case ho => rfl); (case hg => rfl); (case hn => rfl); (case hr => first | (go_simp; done) | (go_simp; rfl)); intro w82 hw; have hg : w80.grownBy w82 (some go77) := (by rw [hw]; exact HP81.2); have hp_ : Kd.R (Kd.int .u8) 5 w82 w.heap.size (fun k_ => (w.heap.size ≤ k_)) (.slice (some ⟨go77, 0, none⟩) x9_3.length co77) y151 := (by rw [hw, Ny151.out]; exact HP81.1); clear HP81; have n0_ := Aside0.mk (hp_); have n1_ := Aside0.mk (Kd.V_afterv (v := (.slice (some ⟨go77, 0, none⟩) x9_3.length co77)) (v1 := (.slice (some ⟨go77, 0, none⟩) x9_3.length co77)) (ok := (fun k_ => ((P0_1_ k_ ∨ P1_1_ k_) ∨ w.heap.size ≤ k_) ∧ k_ ≠ gb131 ∧ k_ ≠ gb132 ∧ k_ ≠ gb133)) (by (with_reducible repeat (first | apply Kd.V_alloc | apply Kd.V_drewN | apply Kd.V_drew)); exact Kd.V_mono HO_132001.out (fun _ hk => ⟨⟨hk.1, ⟨hk.2.2.1, ⟨hk.2.2.2.1, hk.2.2.2.2⟩⟩⟩, hk.2.1⟩)) hg (.inl rfl)); have n2_ := Aside0.mk (Kd.V_afterv (v := (.slice (some ⟨go77, 0, none⟩) x9_3.length co77)) (v1 := (.slice (some ⟨go77, 0, none⟩) x9_3.length co77)) (ok := (fun k_ => ((P0_1_ k_ ∨ P1_1_ k_) ∨ w.heap.size ≤ k_) ∧ k_ ≠ gb131 ∧ k_ ≠ gb132 ∧ k_ ≠ gb133)) (by (with_reducible repeat (first | apply Kd.V_alloc | apply Kd.V_drewN | apply Kd.V_drew)); exact Kd.V_mono HO_133001.out (fun _ hk => ⟨⟨hk.1, ⟨hk.2.2.1, ⟨hk.2.2.2.1, hk.2.2.2.2⟩⟩⟩, hk.2.1⟩)) hg (.inl rfl)); have n3_ := Aside0.mk (blk_grown (g := gb131) (o := .cells #[.bool x132000_3, .slice Ao36 x132001_3.length co36, .int .i64 x132002_3] 25 (0, 0)) (S.b BK131.out) hg (Kd.R_ne HO_9.out BK131.out (by decide))); have n4_ := Aside0.mk (blk_grown (g := gb132) (o := .cells #[.bool x133000_3, .slice Ao37 x133001_3.length co37, .int .i64 x133002_3] 25 (0, 0)) (S.b BK132.out) hg (Kd.R_ne HO_9.out BK132.out (by decide))); have n5_ := Aside0.mk (blk_grown (g := gb133) (o := .cells #[.bool false, .slice none 0 0, .int .i64 0] 25 (0, 0)) (S.b BK133.out) hg (Kd.R_ne HO_9.out BK133.out (by decide))); have n6_ := Aside0.mk ((by rw [hw]; exact below_set (HB.out) GB77.out : Below w.heap.size w w82)); clear HO_9; clear HO_132001; clear HO_133001; clear BK131; clear BK132; clear BK133; clear HB; have HO_9 := n0_; have HO_132001 := n1_; have HO_133001 := n2_; have BK131 := n3_; have BK132 := n4_; have BK133 := n5_; have HB := n6_; clear n0_ n1_ n2_ n3_ n4_ n5_ n6_; clear hg hw hp_))
              go_roundg k3
              case measure => have := HJ3.out; have := HJ19.out; have := HK3.out; omega
              case rel => exact ⟨(y151), (0), (wrap64 (x11_3 + 1)), (by first | rfl | (simp; done) | (simp [*]; done)), (by first | rfl | (simp; done) | (simp [*]; done)), H', ⟨by have := HJ3.out; have := HJ19.out; have := HK3.out; omega⟩, ⟨S.r HO_9.out⟩, ⟨by (with_reducible repeat (first | apply Kd.V_alloc | apply Kd.V_drewN | apply Kd.V_drew)); exact Kd.V_mono HO_132001.out (fun _ hk => ⟨hk.1.1, ⟨hk.2, ⟨hk.1.2.1, ⟨hk.1.2.2.1, hk.1.2.2.2⟩⟩⟩⟩)⟩, ⟨by (with_reducible repeat (first | apply Kd.V_alloc | apply Kd.V_drewN | apply Kd.V_drew)); exact Kd.V_mono HO_133001.out (fun _ hk => ⟨hk.1.1, ⟨hk.2, ⟨hk.1.2.1, ⟨hk.1.2.2.1, hk.1.2.2.2⟩⟩⟩⟩)⟩, ⟨S.b BK131.out⟩, ⟨S.b BK132.out⟩, ⟨S.b BK133.out⟩, ⟨by repeat (first | (with_reducible first | exact HB.out | apply below_alloc | apply pw_below_drewN | apply below_drew1 | refine below_set ?_ GE131.out | refine below_set ?_ GE132.out | refine below_set ?_ GE133.out) | exact HB.out)⟩⟩
             ·rw [if_neg c76] at H
              exact absurd H (by simp)
            ·rw [if_neg c75] at H
             exact absurd H (by simp)
         ·rw [if_neg c41] at H
          have c41b0 : decide (x11_3 ≤ (wrap64 (t135 + 1))) = false := decide_eq_false c41
          clear c41
          replace H := Option.bind_eq_some_iff.mp H
          obtain ⟨⟨t140, t141, t144⟩, A830, H⟩ := H
          replace H : (if (t141.length : Int) > 4096 then (some (false, ([] : List Int), 0, 3)) else (some (t140, t141, t144, 0))) = some (r1, r2, r3, r4) := H
          have A83 := Aside0.mk A830
          clear A830
          by_cases c84 : (t141.length : Int) > 4096
          ·rw [if_pos c84] at H
           have c84b0 : decide (4096 < (t141.length : Int)) = true := decide_eq_true c84
           have c84b1 : decide (4096 < t141.length) = true := decide_eq_true (by omega)
           clear c84
           simp only [Option.some.injEq, Prod.mk.injEq] at H
           obtain ⟨rfl, rfl, rfl, rfl⟩ := H
           have hnb85 := NB131_132.out
           have hnc85 := NB132_131.out
           have hnb86 := NB131_133.out
           have hnc86 := NB133_131.out
           have hcz87_0 : wr.cell? ⟨gb131, 0, none⟩ = some (.bool x132000_3) := (blk_cell BK131.out 0).trans rfl
           have hcz87_1 : wr.cell? ⟨gb131, 1, none⟩ = some (.slice Ao36 x132001_3.length co36) := (blk_cell BK131.out 1).trans rfl
           have hcz87_2 : wr.cell? ⟨gb131, 2, none⟩ = some (.int .i64 x132002_3) := (blk_cell BK131.out 2).trans rfl
           have hfz87_0 := blk_frozen BK131.out 0
           have hfz87_1 := blk_frozen BK131.out 1
           have hfz87_2 := blk_frozen BK131.out 2
           obtain ⟨Ao88, co88, eo88⟩ := Kd.R_slice HO_9.out
           subst eo88
           go_wp2_with (first | ((with_reducible refine gate_callee (f := 22) rfl ?_); refine goesL_ (some 75) rfl rfl Try.func22 (by kernel_rfl) rfl #[.bool x132000_3, .slice Ao88 x9_3.length co88, .int .i64 (wrap64 (-t136))] rfl (by (try simp only [List.map_toArray, List.map_cons, List.map_nil]); first | done | rfl | (simp only [List.length_drop, List.length_take]; rfl)) ?_; (with_reducible refine (G.dec_canon.calls x132000_3 _ _ x9_3 (wrap64 (-t136)) t140 t141 t144 _ ?side1 ?side2 A83.out).mono ?_); (case side1 => repeat (first | exact (Kd.R_reads' HO_9.out).2.2 | (with_reducible refine Kd.C_alloc ?_ _) | (with_reducible refine Kd.C_drewN ?_ _) | (with_reducible refine Kd.C_drew ?_))); (case side2 => exact (Kd.R_reads' HO_9.out).2.1); rintro e w89 ⟨v142, rfl, ho0, hb⟩; refine ⟨_, rfl, ?_⟩; have n0_ := Aside0.mk (Kd.R_below (S.r HO_9.out) hb); have n1_ := Aside0.mk (Kd.V_below (S.v HO_132001.out) hb); have n2_ := Aside0.mk (Kd.V_below (S.v HO_133001.out) hb); have n3_ := Aside0.mk (Kd.V_lower (Kd.V_mono (ok' := fun k_ => ((P0_1_ k_ ∨ P1_1_ k_) ∨ w.heap.size ≤ k_) ∧ some k_ ≠ (.slice Ao88 x9_3.length co88 : Value).ownBlock ∧ k_ ≠ gb131 ∧ k_ ≠ gb132 ∧ k_ ≠ gb133) ho0 (fun k_ hk_ => ⟨(.inr (Nat.le_trans (below_size (by repeat (first | (with_reducible first | exact HB.out | apply below_alloc | apply pw_below_drewN | apply below_drew1 | refine below_set ?_ GE131.out | refine below_set ?_ GE132.out | refine below_set ?_ GE133.out) | exact HB.out))) hk_)), (Kd.fresh' (Kd.R_lt (S.r HO_9.out)) k_ hk_), (Kd.freshB (g := gb131) (o := .cells #[.bool x132000_3, .slice Ao36 x132001_3.length co36, .int .i64 x132002_3] 25 (0, 0)) (S.b BK131.out) k_ hk_), (Kd.freshB (g := gb132) (o := .cells #[.bool x133000_3, .slice Ao37 x133001_3.length co37, .int .i64 x133002_3] 25 (0, 0)) (S.b BK132.out) k_ hk_), (Kd.freshB (g := gb133) (o := .cells #[.bool false, .slice none 0 0, .int .i64 0] 25 (0, 0)) (S.b BK133.out) k_ hk_)⟩)) (below_size (by repeat (first | (with_reducible first | exact HB.out | apply below_alloc | apply pw_below_drewN | apply below_drew1 | refine below_set ?_ GE131.out | refine below_set ?_ GE132.out | refine below_set ?_ GE133.out) | exact HB.out)))); have n4_ := Aside0.mk (blk_below (g := gb131) (o := .cells #[.bool x132000_3, .slice Ao36 x132001_3.length co36, .int .i64 x132002_3] 25 (0, 0)) (S.b BK131.out) hb); have n5_ := Aside0.mk (blk_below (g := gb132) (o := .cells #[.bool x133000_3, .slice Ao37 x133001_3.length co37, .int .i64 x133002_3] 25 (0, 0)) (S.b BK132.out) hb); have n6_ := Aside0.mk (blk_below (g := gb133) (o := .cells #[.bool false, .slice none 0 0, .int .i64 0] 25 (0, 0)) (S.b BK133.out) hb); have n7_ := Aside0.mk (below_step (by repeat (first | (with_reducible first | exact HB.out | apply below_alloc | apply pw_below_drewN | apply below_drew1 | refine below_set ?_ GE131.out | refine below_set ?_ GE132.out | refine below_set ?_ GE133.out) | exact HB.out)) hb); clear HO_9; clear HO_132001; clear HO_133001; clear BK131; clear BK132; clear BK133; clear HB; have HO_9 := n0_; have HO_132001 := n1_; have HO_133001 := n2_; have HO143 := n3_; have BK131 := n4_; have BK132 := n5_; have BK133 := n6_; have HB := n7_; clear n0_ n1_ n2_ n3_ n4_ n5_ n6_ n7_; (try clear hb); (try clear hb2); (try clear hk); (try clear hi); (try clear ho0)) | ((with_reducible refine gate_dst (N := 13) rfl ?_); refine box_event ?hg (N := 13) ?hd (cs := #[.bool false, .slice none 0 0, .int .i64 0]) (t := 25) ?hr ?_; (case hd => rfl); (case hg => rfl); (case hr => first | (go_simp; done) | (go_simp; rfl)); intro gb145 hg w90 hbox hb; have n0_ := Aside0.mk (Kd.R_below (S.r HO_9.out) hb); have n1_ := Aside0.mk (Kd.V_below (Kd.V_elderB (S.v HO_132001.out) gb145 (Nat.le_of_eq hg.symm)) hb); have n2_ := Aside0.mk (Kd.V_below (Kd.V_elderB (S.v HO_133001.out) gb145 (Nat.le_of_eq hg.symm)) hb); have n3_ := Aside0.mk (Kd.V_below (Kd.V_elderB (S.v HO143.out) gb145 (Nat.le_of_eq hg.symm)) hb); have n4_ := Aside0.mk (blk_below (g := gb131) (o := .cells #[.bool x132000_3, .slice Ao36 x132001_3.length co36, .int .i64 x132002_3] 25 (0, 0)) (S.b BK131.out) hb); have n5_ := Aside0.mk (blk_below (g := gb132) (o := .cells #[.bool x133000_3, .slice Ao37 x133001_3.length co37, .int .i64 x133002_3] 25 (0, 0)) (S.b BK132.out) hb); have n6_ := Aside0.mk (blk_below (g := gb133) (o := .cells #[.bool false, .slice none 0 0, .int .i64 0] 25 (0, 0)) (S.b BK133.out) hb); have n7_ := Aside0.mk (below_step (by repeat (first | (with_reducible first | exact HB.out | apply below_alloc | apply pw_below_drewN | apply below_drew1 | refine below_set ?_ GE131.out | refine below_set ?_ GE132.out | refine below_set ?_ GE133.out) | exact HB.out)) hb); have n8_ := Aside0.mk (hbox); have n9_ := Aside0.mk ((by rw [hg]; exact (below_size (by repeat (first | (with_reducible first | exact HB.out | apply below_alloc | apply pw_below_drewN | apply below_drew1 | refine below_set ?_ GE131.out | refine below_set ?_ GE132.out | refine below_set ?_ GE133.out) | exact HB.out))) : w.heap.size ≤ gb145)); have n10_ := Aside0.mk ((by rw [hg]; exact (below_size (by repeat (first | (with_reducible first | exact HB.out | apply below_alloc | apply pw_below_drewN | apply below_drew1 | refine below_set ?_ GE131.out | refine below_set ?_ GE132.out | refine below_set ?_ GE133.out) | exact HB.out))) : w.heap.size ≤ gb145)); have n11_ := Aside0.mk ((by rw [hg]; exact Nat.ne_of_lt (blk_lt (g := gb131) (o := .cells #[.bool x132000_3, .slice Ao36 x132001_3.length co36, .int .i64 x132002_3] 25 (0, 0)) (S.b BK131.out)) : gb131 ≠ gb145)); have n12_ := Aside0.mk ((by rw [hg]; exact Nat.ne_of_gt (blk_lt (g := gb131) (o := .cells #[.bool x132000_3, .slice Ao36 x132001_3.length co36, .int .i64 x132002_3] 25 (0, 0)) (S.b BK131.out)) : gb145 ≠ gb131)); have n13_ := Aside0.mk ((by rw [hg]; exact Nat.ne_of_lt (blk_lt (g := gb132) (o := .cells #[.bool x133000_3, .slice Ao37 x133001_3.length co37, .int .i64 x133002_3] 25 (0, 0)) (S.b BK132.out)) : gb132 ≠ gb145)); have n14_ := Aside0.mk ((by rw [hg]; exact Nat.ne_of_gt (blk_lt (g := gb132) (o := .cells #[.bool x133000_3, .slice Ao37 x133001_3.length co37, .int .i64 x133002_3] 25 (0, 0)) (S.b BK132.out)) : gb145 ≠ gb132)); have n15_ := Aside0.mk ((by rw [hg]; exact Nat.ne_of_lt (blk_lt (g := gb133) (o := .cells #[.bool false, .slice none 0 0, .int .i64 0] 25 (0, 0)) (S.b BK133.out)) : gb133 ≠ gb145)); have n16_ := Aside0.mk ((by rw [hg]; exact Nat.ne_of_gt (blk_lt (g := gb133) (o := .cells #[.bool false, .slice none 0 0, .int .i64 0] 25 (0, 0)) (S.b BK133.out)) : gb145 ≠ gb133)); clear HO_9; clear HO_132001; clear HO_133001; clear HO143; clear BK131; clear BK132; clear BK133; clear HB; have HO_9 := n0_; have HO_132001 := n1_; have HO_133001 := n2_; have HO143 := n3_; have BK131 := n4_; have BK132 := n5_; have BK133 := n6_; have HB := n7_; have BK145 := n8_; have GW145 := n9_; have GE145 := n10_; have NB131_145 := n11_; have NB145_131 := n12_; have NB132_145 := n13_; have NB145_132 := n14_; have NB133_145 := n15_; have NB145_133 := n16_; clear n0_ n1_ n2_ n3_ n4_ n5_ n6_ n7_ n8_ n9_ n10_ n11_ n12_ n13_ n14_ n15_ n16_; clear hb hbox hg; have hnb91 := NB145_131.out; have hnc91 := NB131_145.out; have hnb92 := NB145_132.out; have hnc92 := NB132_145.out; have hnb93 := NB145_133.out; have hnc93 := NB133_145.out; have hcz94_0 : w90.cell? ⟨gb145, 0, none⟩ = some (.bool false) := (blk_cell BK145.out 0).trans rfl; have hcz94_1 : w90.cell? ⟨gb145, 1, none⟩ = some (.slice none 0 0) := (blk_cell BK145.out 1).trans rfl; have hcz94_2 : w90.cell? ⟨gb145, 2, none⟩ = some (.int .i64 0) := (blk_cell BK145.out 2).trans rfl; have hfz94_0 := blk_frozen BK145.out 0; have hfz94_1 := blk_frozen BK145.out 1; have hfz94_2 := blk_frozen BK145.out 2; obtain ⟨Ao95, co95, eo95⟩ := Kd.V_slice HO143.out; subst eo95; have hnb96 := NB133_132.out; have hnc96 := NB132_133.out; have hcz97_0 : w90.cell? ⟨gb133, 0, none⟩ = some (.bool false) := (blk_cell BK133.out 0).trans rfl; have hcz97_1 : w90.cell? ⟨gb133, 1, none⟩ = some (.slice none 0 0) := (blk_cell BK133.out 1).trans rfl; have hcz97_2 : w90.cell? ⟨gb133, 2, none⟩ = some (.int .i64 0) := (blk_cell BK133.out 2).trans rfl; have hfz97_0 := blk_frozen BK133.out 0; have hfz97_1 := blk_frozen BK133.out 1; have hfz97_2 := blk_frozen BK133.out 2))
           refine bodyPost_ret (results_ct rfl _ _ gb133 25 #[.bool false, .slice none 0 0, .int .i64 0] (0, 0) _ rfl (by (with_reducible repeat (first | refine blk_drewN ?_ _ | refine blk_drew ?_ | refine blk_alloc ?_ _)); refine blk_put (cs := #[.bool false, .slice none 0 0, .int .i64 0]) ?_ 2 _ rfl; (with_reducible repeat (first | refine blk_drewN ?_ _ | refine blk_drew ?_ | refine blk_alloc ?_ _)); refine blk_put (cs := #[.bool false, .slice none 0 0, .int .i64 0]) ?_ 1 _ rfl; (with_reducible repeat (first | refine blk_drewN ?_ _ | refine blk_drew ?_ | refine blk_alloc ?_ _)); refine blk_put (cs := #[.bool false, .slice none 0 0, .int .i64 0]) ?_ 0 _ rfl; (with_reducible repeat (first | refine blk_drewN ?_ _ | refine blk_drew ?_ | refine blk_alloc ?_ _)); refine blk_far ?_ NB133_145.out _; (with_reducible repeat (first | refine blk_drewN ?_ _ | refine blk_drew ?_ | refine blk_alloc ?_ _)); refine blk_far ?_ NB133_145.out _; (with_reducible repeat (first | refine blk_drewN ?_ _ | refine blk_drew ?_ | refine blk_alloc ?_ _)); refine blk_far ?_ NB133_145.out _; (with_reducible repeat (first | refine blk_drewN ?_ _ | refine blk_drew ?_ | refine blk_alloc ?_ _)); exact BK133.out) Try.underlying25 rfl (by kernel_rfl)) rfl ?_
           exact ⟨_, by first | rfl | (simp [errW_none, errW_some] <;> rfl) | (simp only [← hji28]; first | rfl | (simp [errW_none, errW_some] <;> rfl)) | (simp [*, errW_none, errW_some] <;> rfl), Kd.V_mono (Kd.V_nil _ _ _ _ _) (fun k_ hk => by first | exact ⟨(.inr (hk.1)), hk.2⟩ | exact (.inr (hk))), by repeat (first | (with_reducible first | exact HB.out | apply below_alloc | apply pw_below_drewN | apply below_drew1 | refine below_set ?_ GE131.out | refine below_set ?_ GE132.out | refine below_set ?_ GE133.out | refine below_set ?_ GE145.out) | exact HB.out)⟩
          ·rw [if_neg c84] at H
           have c84b0 : decide (4096 < (t141.length : Int)) = false := decide_eq_false c84
           have c84b1 : decide (4096 < t141.length) = false := decide_eq_false (by omega)
           clear c84
           simp only [Option.some.injEq, Prod.mk.injEq] at H
           obtain ⟨rfl, rfl, rfl, rfl⟩ := H
           have hnb98 := NB131_132.out
           have hnc98 := NB132_131.out
           have hnb99 := NB131_133.out
           have hnc99 := NB133_131.out
           have hcz100_0 : wr.cell? ⟨gb131, 0, none⟩ = some (.bool x132000_3) := (blk_cell BK131.out 0).trans rfl
           have hcz100_1 : wr.cell? ⟨gb131, 1, none⟩ = some (.slice Ao36 x132001_3.length co36) := (blk_cell BK131.out 1).trans rfl
           have hcz100_2 : wr.cell? ⟨gb131, 2, none⟩ = some (.int .i64 x132002_3) := (blk_cell BK131.out 2).trans rfl
           have hfz100_0 := blk_frozen BK131.out 0
           have hfz100_1 := blk_frozen BK131.out 1
           have hfz100_2 := blk_frozen BK131.out 2
           obtain ⟨Ao101, co101, eo101⟩ := Kd.R_slice HO_9.out
           subst eo101
           go_wp2_with (first | ((with_reducible refine gate_callee (f := 22) rfl ?_); refine goesL_ (some 75) rfl rfl Try.func22 (by kernel_rfl) rfl #[.bool x132000_3, .slice Ao101 x9_3.length co101, .int .i64 (wrap64 (-t136))] rfl (by (try simp only [List.map_toArray, List.map_cons, List.map_nil]); first | done | rfl | (simp only [List.length_drop, List.length_take]; rfl)) ?_; (with_reducible refine (G.dec_canon.calls x132000_3 _ _ x9_3 (wrap64 (-t136)) t140 t141 t144 _ ?side1 ?side2 A83.out).mono ?_); (case side1 => repeat (first | exact (Kd.R_reads' HO_9.out).2.2 | (with_reducible refine Kd.C_alloc ?_ _) | (with_reducible refine Kd.C_drewN ?_ _) | (with_reducible refine Kd.C_drew ?_))); (case side2 => exact (Kd.R_reads' HO_9.out).2.1); rintro e w102 ⟨v142, rfl, ho0, hb⟩; refine ⟨_, rfl, ?_⟩; have n0_ := Aside0.mk (Kd.R_below (S.r HO_9.out) hb); have n1_ := Aside0.mk (Kd.V_below (S.v HO_132001.out) hb); have n2_ := Aside0.mk (Kd.V_below (S.v HO_133001.out) hb); have n3_ := Aside0.mk (Kd.V_lower (Kd.V_mono (ok' := fun k_ => ((P0_1_ k_ ∨ P1_1_ k_) ∨ w.heap.size ≤ k_) ∧ some k_ ≠ (.slice Ao101 x9_3.length co101 : Value).ownBlock ∧ k_ ≠ gb131 ∧ k_ ≠ gb132 ∧ k_ ≠ gb133) ho0 (fun k_ hk_ => ⟨(.inr (Nat.le_trans (below_size (by repeat (first | (with_reducible first | exact HB.out | apply below_alloc | apply pw_below_drewN | apply below_drew1 | refine below_set ?_ GE131.out | refine below_set ?_ GE132.out | refine below_set ?_ GE133.out) | exact HB.out))) hk_)), (Kd.fresh' (Kd.R_lt (S.r HO_9.out)) k_ hk_), (Kd.freshB (g := gb131) (o := .cells #[.bool x132000_3, .slice Ao36 x132001_3.length co36, .int .i64 x132002_3] 25 (0, 0)) (S.b BK131.out) k_ hk_), (Kd.freshB (g := gb132) (o := .cells #[.bool x133000_3, .slice Ao37 x133001_3.length co37, .int .i64 x133002_3] 25 (0, 0)) (S.b BK132.out) k_ hk_), (Kd.freshB (g := gb133) (o := .cells #[.bool false, .slice none 0 0, .int .i64 0] 25 (0, 0)) (S.b BK133.out) k_ hk_)⟩)) (below_size (by repeat (first | (with_reducible first | exact HB.out | apply below_alloc | apply pw_below_drewN | apply below_drew1 | refine below_set ?_ GE131.out | refine below_set ?_ GE132.out | refine below_set ?_ GE133.out) | exact HB.out)))); have n4_ := Aside0.mk (blk_below (g := gb131) (o := .cells #[.bool x132000_3, .slice Ao36 x132001_3.length co36, .int .i64 x132002_3] 25 (0, 0)) (S.b BK131.out) hb); have n5_ := Aside0.mk (blk_below (g := gb132) (o := .cells #[.bool x133000_3, .slice Ao37 x133001_3.length co37, .int .i64 x133002_3] 25 (0, 0)) (S.b BK132.out) hb); have n6_ := Aside0.mk (blk_below (g := gb133) (o := .cells #[.bool false, .slice none 0 0, .int .i64 0] 25 (0, 0)) (S.b BK133.out) hb); have n7_ := Aside0.mk (below_step (by repeat (first | (with_reducible first | exact HB.out | apply below_alloc | apply pw_below_drewN | apply below_drew1 | refine below_set ?_ GE131.out | refine below_set ?_ GE132.out | refine below_set ?_ GE133.out) | exact HB.out)) hb); clear HO_9; clear HO_132001; clear HO_133001; clear BK131; clear BK132; clear BK133; clear HB; have HO_9 := n0_; have HO_132001 := n1_; have HO_133001 := n2_; have HO143 := n3_; have BK131 := n4_; have BK132 := n5_; have BK133 := n6_; have HB := n7_; clear n0_ n1_ n2_ n3_ n4_ n5_ n6_ n7_; (try clear hb); (try clear hb2); (try clear hk); (try clear hi); (try clear ho0)) | ((with_reducible refine gate_dst (N := 13) rfl ?_); refine box_event ?hg (N := 13) ?hd (cs := #[.bool false, .slice none 0 0, .int .i64 0]) (t := 25) ?hr ?_; (case hd => rfl); (case hg => rfl); (case hr => first | (go_simp; done) | (go_simp; rfl)); intro gb145 hg w103 hbox hb; have n0_ := Aside0.mk (Kd.R_below (S.r HO_9.out) hb); have n1_ := Aside0.mk (Kd.V_below (Kd.V_elderB (S.v HO_132001.out) gb145 (Nat.le_of_eq hg.symm)) hb); have n2_ := Aside0.mk (Kd.V_below (Kd.V_elderB (S.v HO_133001.out) gb145 (Nat.le_of_eq hg.symm)) hb); have n3_ := Aside0.mk (Kd.V_below (Kd.V_elderB (S.v HO143.out) gb145 (Nat.le_of_eq hg.symm)) hb); have n4_ := Aside0.mk (blk_below (g := gb131) (o := .cells #[.bool x132000_3, .slice Ao36 x132001_3.length co36, .int .i64 x132002_3] 25 (0, 0)) (S.b BK131.out) hb); have n5_ := Aside0.mk (blk_below (g := gb132) (o := .cells #[.bool x133000_3, .slice Ao37 x133001_3.length co37, .int .i64 x133002_3] 25 (0, 0)) (S.b BK132.out) hb); have n6_ := Aside0.mk (blk_below (g := gb133) (o := .cells #[.bool false, .slice none 0 0, .int .i64 0] 25 (0, 0)) (S.b BK133.out) hb); have n7_ := Aside0.mk (below_step (by repeat (first | (with_reducible first | exact HB.out | apply below_alloc | apply pw_below_drewN | apply below_drew1 | refine below_set ?_ GE131.out | refine below_set ?_ GE132.out | refine below_set ?_ GE133.out) | exact HB.out)) hb); have n8_ := Aside0.mk (hbox); have n9_ := Aside0.mk ((by rw [hg]; exact (below_size (by repeat (first | (with_reducible first | exact HB.out | apply below_alloc | apply pw_below_drewN | apply below_drew1 | refine below_set ?_ GE131.out | refine below_set ?_ GE132.out | refine below_set ?_ GE133.out) | exact HB.out))) : w.heap.size ≤ gb145)); have n10_ := Aside0.mk ((by rw [hg]; exact (below_size (by repeat (first | (with_reducible first | exact HB.out | apply below_alloc | apply pw_below_drewN | apply below_drew1 | refine below_set ?_ GE131.out | refine below_set ?_ GE132.out | refine below_set ?_ GE133.out) | exact HB.out))) : w.heap.size ≤ gb145)); have n11_ := Aside0.mk ((by rw [hg]; exact Nat.ne_of_lt (blk_lt (g := gb131) (o := .cells #[.bool x132000_3, .slice Ao36 x132001_3.length co36, .int .i64 x132002_3] 25 (0, 0)) (S.b BK131.out)) : gb131 ≠ gb145)); have n12_ := Aside0.mk ((by rw [hg]; exact Nat.ne_of_gt (blk_lt (g := gb131) (o := .cells #[.bool x132000_3, .slice Ao36 x132001_3.length co36, .int .i64 x132002_3] 25 (0, 0)) (S.b BK131.out)) : gb145 ≠ gb131)); have n13_ := Aside0.mk ((by rw [hg]; exact Nat.ne_of_lt (blk_lt (g := gb132) (o := .cells #[.bool x133000_3, .slice Ao37 x133001_3.length co37, .int .i64 x133002_3] 25 (0, 0)) (S.b BK132.out)) : gb132 ≠ gb145)); have n14_ := Aside0.mk ((by rw [hg]; exact Nat.ne_of_gt (blk_lt (g := gb132) (o := .cells #[.bool x133000_3, .slice Ao37 x133001_3.length co37, .int .i64 x133002_3] 25 (0, 0)) (S.b BK132.out)) : gb145 ≠ gb132)); have n15_ := Aside0.mk ((by rw [hg]; exact Nat.ne_of_lt (blk_lt (g := gb133) (o := .cells #[.bool false, .slice none 0 0, .int .i64 0] 25 (0, 0)) (S.b BK133.out)) : gb133 ≠ gb145)); have n16_ := Aside0.mk ((by rw [hg]; exact Nat.ne_of_gt (blk_lt (g := gb133) (o := .cells #[.bool false, .slice none 0 0, .int .i64 0] 25 (0, 0)) (S.b BK133.out)) : gb145 ≠ gb133)); clear HO_9; clear HO_132001; clear HO_133001; clear HO143; clear BK131; clear BK132; clear BK133; clear HB; have HO_9 := n0_; have HO_132001 := n1_; have HO_133001 := n2_; have HO143 := n3_; have BK131 := n4_; have BK132 := n5_; have BK133 := n6_; have HB := n7_; have BK145 := n8_; have GW145 := n9_; have GE145 := n10_; have NB131_145 := n11_; have NB145_131 := n12_; have NB132_145 := n13_; have NB145_132 := n14_; have NB133_145 := n15_; have NB145_133 := n16_; clear n0_ n1_ n2_ n3_ n4_ n5_ n6_ n7_ n8_ n9_ n10_ n11_ n12_ n13_ n14_ n15_ n16_; clear hb hbox hg; have hnb104 := NB145_131.out; have hnc104 := NB131_145.out; have hnb105 := NB145_132.out; have hnc105 := NB132_145.out; have hnb106 := NB145_133.out; have hnc106 := NB133_145.out; have hcz107_0 : w103.cell? ⟨gb145, 0, none⟩ = some (.bool false) := (blk_cell BK145.out 0).trans rfl; have hcz107_1 : w103.cell? ⟨gb145, 1, none⟩ = some (.slice none 0 0) := (blk_cell BK145.out 1).trans rfl; have hcz107_2 : w103.cell? ⟨gb145, 2, none⟩ = some (.int .i64 0) := (blk_cell BK145.out 2).trans rfl; have hfz107_0 := blk_frozen BK145.out 0; have hfz107_1 := blk_frozen BK145.out 1; have hfz107_2 := blk_frozen BK145.out 2; obtain ⟨Ao108, co108, eo108⟩ := Kd.V_slice HO143.out; subst eo108; have hnb109 := NB133_132.out; have hnc109 := NB132_133.out; have hcz110_0 : w103.cell? ⟨gb133, 0, none⟩ = some (.bool false) := (blk_cell BK133.out 0).trans rfl; have hcz110_1 : w103.cell? ⟨gb133, 1, none⟩ = some (.slice none 0 0) := (blk_cell BK133.out 1).trans rfl; have hcz110_2 : w103.cell? ⟨gb133, 2, none⟩ = some (.int .i64 0) := (blk_cell BK133.out 2).trans rfl; have hfz110_0 := blk_frozen BK133.out 0; have hfz110_1 := blk_frozen BK133.out 1; have hfz110_2 := blk_frozen BK133.out 2))
           refine bodyPost_ret (results_ct rfl _ _ gb133 25 #[.bool t140, .slice Ao108 t141.length co108, .int .i64 t144] (0, 0) _ rfl (by (with_reducible repeat (first | refine blk_drewN ?_ _ | refine blk_drew ?_ | refine blk_alloc ?_ _)); refine blk_put (cs := #[.bool t140, .slice Ao108 t141.length co108, .int .i64 0]) ?_ 2 _ rfl; (with_reducible repeat (first | refine blk_drewN ?_ _ | refine blk_drew ?_ | refine blk_alloc ?_ _)); refine blk_put (cs := #[.bool t140, .slice none 0 0, .int .i64 0]) ?_ 1 _ rfl; (with_reducible repeat (first | refine blk_drewN ?_ _ | refine blk_drew ?_ | refine blk_alloc ?_ _)); refine blk_put (cs := #[.bool false, .slice none 0 0, .int .i64 0]) ?_ 0 _ rfl; (with_reducible repeat (first | refine blk_drewN ?_ _ | refine blk_drew ?_ | refine blk_alloc ?_ _)); refine blk_far ?_ NB133_145.out _; (with_reducible repeat (first | refine blk_drewN ?_ _ | refine blk_drew ?_ | refine blk_alloc ?_ _)); refine blk_far ?_ NB133_145.out _; (with_reducible repeat (first | refine blk_drewN ?_ _ | refine blk_drew ?_ | refine blk_alloc ?_ _)); refine blk_far ?_ NB133_145.out _; (with_reducible repeat (first | refine blk_drewN ?_ _ | refine blk_drew ?_ | refine blk_alloc ?_ _)); exact BK133.out) Try.underlying25 rfl (by kernel_rfl)) rfl ?_
           exact ⟨_, by first | rfl | (simp [errW_none, errW_some] <;> rfl) | (simp only [← hji28]; first | rfl | (simp [errW_none, errW_some] <;> rfl)) | (simp [*, errW_none, errW_some] <;> rfl), by (with_reducible repeat (first | apply Kd.V_alloc | apply Kd.V_drewN | apply Kd.V_drew)); exact Kd.V_mono (Kd.V_far (p := ⟨gb133, 2, none⟩) (Kd.V_far (p := ⟨gb133, 1, none⟩) (Kd.V_far (p := ⟨gb133, 0, none⟩) (Kd.V_far (p := ⟨gb145, 2, none⟩) (Kd.V_far (p := ⟨gb145, 1, none⟩) (Kd.V_far (p := ⟨gb145, 0, none⟩) (Kd.V_mono (Kd.V_mono HO143.out (fun k_ hk => (⟨hk, hk.2⟩ : _ ∧ k_ ≠ gb145))) (fun k_ hk => (⟨hk, hk.1.1.2.2.2.2⟩ : _ ∧ k_ ≠ gb133))) (fun _ hk => hk.1.2) (.bool t140)) (fun _ hk => hk.1.2) (.slice Ao108 t141.length co108)) (fun _ hk => hk.1.2) (.int .i64 t144)) (fun _ hk => hk.2) (.bool t140)) (fun _ hk => hk.2) (.slice Ao108 t141.length co108)) (fun _ hk => hk.2) (.int .i64 t144)) (fun _ hk => hk.1.1.1.1), by repeat (first | (with_reducible first | exact HB.out | apply below_alloc | apply pw_below_drewN | apply below_drew1 | refine below_set ?_ GE131.out | refine below_set ?_ GE132.out | refine below_set ?_ GE133.out | refine below_set ?_ GE145.out) | exact HB.out)⟩
      ·rw [if_neg c30] at H
       exact absurd H (by simp)
     ·rw [if_neg c29] at H
      exact absurd H (by simp)

end Go.Proofs.Ytnafjabpkbahdaa.Pr
