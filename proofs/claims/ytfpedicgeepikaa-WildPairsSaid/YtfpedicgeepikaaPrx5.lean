-- printed by wip/gprint.py (ours) out of the translation, by the kit's print program with given contracts
import Derived.Laws.Cover1
import Derived.Test.YtfpedicgeepikaaS3
import Derived.Test.YtfpedicgeepikaaPrx0
namespace Go.Proofs.Ytfpedicgeepikaa.Pr
open Go.RowKit Go.Proofs.YtfpedicgeepikaaW.PrintWords Go.Proofs.YtfpedicgeepikaaW.PrintLast Go.Proofs.YtfpedicgeepikaaW.PrintMore
attribute [local go_sem] max2_int min2_int max_two min_two max_three min_three max_four min_four   -- for this text's walks alone
set_option linter.unusedVariables false
set_option linter.unusedSimpArgs false

/-! ### rubricref14_Right: function 14 -/
mutual
def rubricref14_Right.j0 : Nat → Bool → Int → ByteArray → List ByteArray → Int → Option (Bool)
 | 0, _, _, _, _, _ => none
 | k + 1, x42, x175000, x175001, x175002, x175003 => if x42 = true then (some false) else (rubricref14_Right.l0 k 1 x175000 x175001 x175002 x175003)
def rubricref14_Right.l0 : Nat → Int → Int → ByteArray → List ByteArray → Int → Option (Bool)
 | 0, _, _, _, _, _ => none
 | k + 1, x3, x175000, x175001, x175002, x175003 => if x3 < (x175002.length : Int) then (if 0 ≤ (wrap64 (x3 - 1)) then (if (wrap64 (x3 - 1)) < (x175002.length : Int) then (if 0 ≤ x3 then (if ((Op.bytesLess ((rdOf ByteArray.empty x175002 (wrap64 (x3 - 1))).toList) ((rdOf ByteArray.empty x175002 x3).toList)) = true) then (rubricref14_Right.l0 k (wrap64 (x3 + 1)) x175000 x175001 x175002 x175003) else (some false)) else (none)) else (none)) else (none)) else (some true)
end
def rubricref14_Right.f (k : Nat) (a0_0 : Int) (a0_1 : ByteArray) (l0_2 : List ByteArray) (a0_3 : Int) : Option (Bool) := if a0_0 < 1 then (rubricref14_Right.j0 k true a0_0 a0_1 l0_2 a0_3) else (if a0_0 > 3 then (rubricref14_Right.j0 k true a0_0 a0_1 l0_2 a0_3) else (if a0_3 < 1 then (rubricref14_Right.j0 k true a0_0 a0_1 l0_2 a0_3) else (if a0_3 > 3 then (rubricref14_Right.j0 k true a0_0 a0_1 l0_2 a0_3) else (if a0_0 = 2 then (if a0_0 = 3 then (rubricref14_Right.j0 k false a0_0 a0_1 l0_2 a0_3) else (rubricref14_Right.j0 k (decide ((l0_2.length : Int) > 0)) a0_0 a0_1 l0_2 a0_3)) else (if a0_1.toList = ([] : List UInt8) then (if a0_0 = 3 then (rubricref14_Right.j0 k false a0_0 a0_1 l0_2 a0_3) else (rubricref14_Right.j0 k (decide ((l0_2.length : Int) > 0)) a0_0 a0_1 l0_2 a0_3)) else (rubricref14_Right.j0 k true a0_0 a0_1 l0_2 a0_3))))))
theorem rubricref14_Right.mono_l : ∀ k, (∀ y0 y1 y2 y3 y4, LeO (rubricref14_Right.j0 k y0 y1 y2 y3 y4) (rubricref14_Right.j0 (k + 1) y0 y1 y2 y3 y4)) ∧ (∀ y0 y1 y2 y3 y4, LeO (rubricref14_Right.l0 k y0 y1 y2 y3 y4) (rubricref14_Right.l0 (k + 1) y0 y1 y2 y3 y4))
 | 0 => ⟨fun _ _ _ _ _ r h => by simp [rubricref14_Right.j0] at h, fun _ _ _ _ _ r h => by simp [rubricref14_Right.l0] at h⟩
 | k + 1 => by
  obtain ⟨ih0, ih1⟩ := rubricref14_Right.mono_l k; refine ⟨?_, ?_⟩
  ·intro y0 y1 y2 y3 y4
   unfold rubricref14_Right.j0
   repeat' first
   | (with_reducible exact ih0 _ _ _ _ _)
   | (with_reducible exact ih1 _ _ _ _ _)
   | (with_reducible exact LeO.refl _)
   | (with_reducible exact LeO.none _)
   | (with_reducible refine LeO.ite ?_ ?_)
   | (with_reducible refine LeO.bind ?_ (fun _ => ?_))
   | exact ih0 _ _ _ _ _
   | exact ih1 _ _ _ _ _
   | exact LeO.none _
   | refine LeO.ite ?_ ?_
   | refine LeO.bind ?_ (fun _ => ?_)
  ·intro y0 y1 y2 y3 y4
   unfold rubricref14_Right.l0
   repeat' first
   | (with_reducible exact ih0 _ _ _ _ _)
   | (with_reducible exact ih1 _ _ _ _ _)
   | (with_reducible exact LeO.refl _)
   | (with_reducible exact LeO.none _)
   | (with_reducible refine LeO.ite ?_ ?_)
   | (with_reducible refine LeO.bind ?_ (fun _ => ?_))
   | exact ih0 _ _ _ _ _
   | exact ih1 _ _ _ _ _
   | exact LeO.none _
   | refine LeO.ite ?_ ?_
   | refine LeO.bind ?_ (fun _ => ?_)
theorem rubricref14_Right.mono : ∀ a0 a1 a2 a3 k, LeO (rubricref14_Right.f k a0 a1 a2 a3) (rubricref14_Right.f (k + 1) a0 a1 a2 a3) := by
 intro a0 a1 a2 a3 k; obtain ⟨ih0, ih1⟩ := rubricref14_Right.mono_l k
 unfold rubricref14_Right.f
 repeat' first
   | (with_reducible exact ih0 _ _ _ _ _)
   | (with_reducible exact ih1 _ _ _ _ _)
   | (with_reducible exact LeO.refl _)
   | (with_reducible exact LeO.none _)
   | (with_reducible refine LeO.ite ?_ ?_)
   | (with_reducible refine LeO.bind ?_ (fun _ => ?_))
   | exact ih0 _ _ _ _ _
   | exact ih1 _ _ _ _ _
   | exact LeO.none _
   | refine LeO.ite ?_ ?_
   | refine LeO.bind ?_ (fun _ => ?_)
set_option maxHeartbeats 8000000 in
set_option maxRecDepth 100000 in
theorem rubricref14_Right.calls (k : Nat) (a0_0 : Int) (a0_1 : ByteArray) (A0_2 : Option Addr) (c0_2 : Nat) (l0_2 : List ByteArray) (a0_3 : Int) (r : Bool) (w : World) (hr0_2 : Kd.C Kd.string w A0_2 l0_2.length l0_2) (hc0_2 : l0_2.length ≤ c0_2) (h : rubricref14_Right.f k a0_0 a0_1 l0_2 a0_3 = some r) :
  Calls Try.prog 14 #[.agg #[.int .i64 a0_0, .string a0_1, .slice A0_2 l0_2.length c0_2, .int .i64 a0_3]] w fun e w' => e = .returned (.bool r) ∧ Below w.heap.size w w' := by
 have hu38 := Try.underlying38; have HR0_2 := Aside0.mk hr0_2; have HC0_2 := Aside0.mk hc0_2; clear hr0_2 hc0_2; have HB := Aside0.mk (Below.refl w.heap.size w); have H : (if a0_0 < 1 then (rubricref14_Right.j0 k true a0_0 a0_1 l0_2 a0_3) else (if a0_0 > 3 then (rubricref14_Right.j0 k true a0_0 a0_1 l0_2 a0_3) else (if a0_3 < 1 then (rubricref14_Right.j0 k true a0_0 a0_1 l0_2 a0_3) else (if a0_3 > 3 then (rubricref14_Right.j0 k true a0_0 a0_1 l0_2 a0_3) else (if a0_0 = 2 then (if a0_0 = 3 then (rubricref14_Right.j0 k false a0_0 a0_1 l0_2 a0_3) else (rubricref14_Right.j0 k (decide ((l0_2.length : Int) > 0)) a0_0 a0_1 l0_2 a0_3)) else (if a0_1.toList = ([] : List UInt8) then (if a0_0 = 3 then (rubricref14_Right.j0 k false a0_0 a0_1 l0_2 a0_3) else (rubricref14_Right.j0 k (decide ((l0_2.length : Int) > 0)) a0_0 a0_1 l0_2 a0_3)) else (rubricref14_Right.j0 k true a0_0 a0_1 l0_2 a0_3))))))) = some r := h; clear h; have HC2 := Aside0.mk H; clear H
 go_enter Try.func14, Try.ntmps14
 go_upto_region 1 with (first | ((with_reducible refine gate_dst (N := 1) rfl ?_); (try (refine gate_guard (by rfl) ?_; dsimp only)); refine box_event ?hg (N := 1) ?hd (cs := #[.int .i64 a0_0, .string a0_1, .slice A0_2 l0_2.length c0_2, .int .i64 a0_3]) (t := 38) ?hr ?_; (case hd => rfl); (case hg => rfl); (case hr => first | (go_simp; done) | (go_simp; rfl)); intro gb174 hg w3 hbox hb; have n0_ := Aside0.mk (below_step S.B hb); have n1_ := Aside0.mk (hbox); have n2_ := Aside0.mk ((by rw [hg]; exact (below_size S.B) : w.heap.size ≤ gb174)); have n3_ := Aside0.mk ((by rw [hg]; exact (below_size S.B) : w.heap.size ≤ gb174)); clear HB; have HB := n0_; have BK174 := n1_; have GW174 := n2_; have GE174 := n3_; clear n0_ n1_ n2_ n3_; clear hb hbox hg))
 repeat (go_quiet (first | ((with_reducible refine gate_dst (N := 1) rfl ?_); (try (refine gate_guard (by rfl) ?_; dsimp only)); refine box_event ?hg (N := 1) ?hd (cs := #[.int .i64 a0_0, .string a0_1, .slice A0_2 l0_2.length c0_2, .int .i64 a0_3]) (t := 38) ?hr ?_; (case hd => rfl); (case hg => rfl); (case hr => first | (go_simp; done) | (go_simp; rfl)); intro gb174 hg w3 hbox hb; have n0_ := Aside0.mk (below_step S.B hb); have n1_ := Aside0.mk (hbox); have n2_ := Aside0.mk ((by rw [hg]; exact (below_size S.B) : w.heap.size ≤ gb174)); have n3_ := Aside0.mk ((by rw [hg]; exact (below_size S.B) : w.heap.size ≤ gb174)); clear HB; have HB := n0_; have BK174 := n1_; have GW174 := n2_; have GE174 := n3_; clear n0_ n1_ n2_ n3_; clear hb hbox hg)); go_upto_region 1 with (first | ((with_reducible refine gate_dst (N := 1) rfl ?_); (try (refine gate_guard (by rfl) ?_; dsimp only)); refine box_event ?hg (N := 1) ?hd (cs := #[.int .i64 a0_0, .string a0_1, .slice A0_2 l0_2.length c0_2, .int .i64 a0_3]) (t := 38) ?hr ?_; (case hd => rfl); (case hg => rfl); (case hr => first | (go_simp; done) | (go_simp; rfl)); intro gb174 hg w3 hbox hb; have n0_ := Aside0.mk (below_step S.B hb); have n1_ := Aside0.mk (hbox); have n2_ := Aside0.mk ((by rw [hg]; exact (below_size S.B) : w.heap.size ≤ gb174)); have n3_ := Aside0.mk ((by rw [hg]; exact (below_size S.B) : w.heap.size ≤ gb174)); clear HB; have HB := n0_; have BK174 := n1_; have GW174 := n2_; have GE174 := n3_; clear n0_ n1_ n2_ n3_; clear hb hbox hg)))
 (try simp only [Act.put, List.setIfInBounds_toArray, List.set_cons_zero, List.set_cons_succ])
 go_cut [42] (fun v42 wc => ∃ (kq : Nat) (x42_1 : Bool), v42 = .bool x42_1 ∧ Aside0 (rubricref14_Right.j0 kq x42_1 a0_0 a0_1 l0_2 a0_3 = some r) ∧ Aside0 (kq ≤ k) ∧ Aside0 (wc.heap[gb174]? = some (.cells #[.int .i64 a0_0, .string a0_1, (.slice A0_2 l0_2.length c0_2), .int .i64 a0_3] 38 (0, 0))) ∧ Aside0 (Below w.heap.size w wc))
 case first =>
  have H := HC2.out; clear HC2
  by_cases c4 : a0_0 < 1
  ·rw [if_pos c4] at H; have c4b0 : decide (a0_0 < 1) = true := decide_eq_true c4; clear c4; (first | rw [c4b0] | (simp only [i64_w, i32_w]; rw [c4b0]) | skip); have H' := Aside0.mk H; clear H; obtain ⟨hcz5_0, hcz5_1, hcz5_2, hcz5_3, hfz5_0, hfz5_1, hfz5_2, hfz5_3⟩ := S.c4 BK174.out; go_wp2
   repeat (go_quiet (fail); try go_wp2)
   go_meet
   case rel => exact ⟨_, (true), (by first | rfl | (simp; done) | (simp [*]; done)), H', ⟨by first | omega | exact Nat.le_refl _⟩, ⟨S.b BK174.out⟩, ⟨S.B⟩⟩
  ·rw [if_neg c4] at H; have c4b0 : decide (a0_0 < 1) = false := decide_eq_false c4; clear c4; (first | rw [c4b0] | (simp only [i64_w, i32_w]; rw [c4b0]) | skip)
   by_cases c6 : a0_0 > 3
   ·rw [if_pos c6] at H; have c6b0 : decide (3 < a0_0) = true := decide_eq_true c6; clear c6; have H' := Aside0.mk H; clear H; obtain ⟨hcz7_0, hcz7_1, hcz7_2, hcz7_3, hfz7_0, hfz7_1, hfz7_2, hfz7_3⟩ := S.c4 BK174.out; go_wp2
    repeat (go_quiet (fail); try go_wp2)
    go_meet
    case rel => exact ⟨_, (true), (by first | rfl | (simp; done) | (simp [*]; done)), H', ⟨by first | omega | exact Nat.le_refl _⟩, ⟨S.b BK174.out⟩, ⟨S.B⟩⟩
   ·rw [if_neg c6] at H; have c6b0 : decide (3 < a0_0) = false := decide_eq_false c6; clear c6
    by_cases c8 : a0_3 < 1
    ·rw [if_pos c8] at H; have c8b0 : decide (a0_3 < 1) = true := decide_eq_true c8; clear c8; have H' := Aside0.mk H; clear H; obtain ⟨hcz9_0, hcz9_1, hcz9_2, hcz9_3, hfz9_0, hfz9_1, hfz9_2, hfz9_3⟩ := S.c4 BK174.out; go_wp2
     repeat (go_quiet (fail); try go_wp2)
     go_meet
     case rel => exact ⟨_, (true), (by first | rfl | (simp; done) | (simp [*]; done)), H', ⟨by first | omega | exact Nat.le_refl _⟩, ⟨S.b BK174.out⟩, ⟨S.B⟩⟩
    ·rw [if_neg c8] at H; have c8b0 : decide (a0_3 < 1) = false := decide_eq_false c8; clear c8
     by_cases c10 : a0_3 > 3
     ·rw [if_pos c10] at H; have c10b0 : decide (3 < a0_3) = true := decide_eq_true c10; clear c10; have H' := Aside0.mk H; clear H; obtain ⟨hcz11_0, hcz11_1, hcz11_2, hcz11_3, hfz11_0, hfz11_1, hfz11_2, hfz11_3⟩ := S.c4 BK174.out; go_wp2
      repeat (go_quiet (fail); try go_wp2)
      go_meet
      case rel => exact ⟨_, (true), (by first | rfl | (simp; done) | (simp [*]; done)), H', ⟨by first | omega | exact Nat.le_refl _⟩, ⟨S.b BK174.out⟩, ⟨S.B⟩⟩
     ·rw [if_neg c10] at H; have c10b0 : decide (3 < a0_3) = false := decide_eq_false c10; clear c10
      by_cases c12 : a0_0 = 2
      ·rw [if_pos c12] at H; have c12b0 : (a0_0 == 2) = true := beq_iff_eq.mpr c12; have c12b1 : (a0_0 != 2) = false := bne_eq_false_iff_eq.mpr c12; clear c12
       by_cases c13 : a0_0 = 3
       ·rw [if_pos c13] at H; have c13b0 : (a0_0 == 3) = true := beq_iff_eq.mpr c13; have c13b1 : (a0_0 != 3) = false := bne_eq_false_iff_eq.mpr c13; clear c13; have H' := Aside0.mk H; clear H; obtain ⟨hcz14_0, hcz14_1, hcz14_2, hcz14_3, hfz14_0, hfz14_1, hfz14_2, hfz14_3⟩ := S.c4 BK174.out; go_wp2
        repeat (go_quiet (fail); try go_wp2)
        go_meet
        case rel => exact ⟨_, (false), (by first | rfl | (simp; done) | (simp [*]; done)), H', ⟨by first | omega | exact Nat.le_refl _⟩, ⟨S.b BK174.out⟩, ⟨S.B⟩⟩
       ·rw [if_neg c13] at H; have c13b0 : (a0_0 == 3) = false := beq_eq_false_iff_ne.mpr c13; have c13b1 : (a0_0 != 3) = true := bne_iff_ne.mpr c13; have H' := Aside0.mk H; clear H; obtain ⟨hcz15_0, hcz15_1, hcz15_2, hcz15_3, hfz15_0, hfz15_1, hfz15_2, hfz15_3⟩ := S.c4 BK174.out; go_wp2
        repeat (go_quiet (fail); try go_wp2)
        go_meet
        case rel => exact ⟨_, (decide ((l0_2.length : Int) > 0)), (by first | rfl | (simp; done) | (simp [*]; done)), H', ⟨by first | omega | exact Nat.le_refl _⟩, ⟨S.b BK174.out⟩, ⟨S.B⟩⟩
      ·rw [if_neg c12] at H; have c12b0 : (a0_0 == 2) = false := beq_eq_false_iff_ne.mpr c12; have c12b1 : (a0_0 != 2) = true := bne_iff_ne.mpr c12
       by_cases c16 : a0_1.toList = ([] : List UInt8)
       ·rw [if_pos c16] at H; have c16b0 : (a0_1.toList == ([] : List UInt8)) = true := beq_iff_eq.mpr c16; have c16b1 : (a0_1.toList != ([] : List UInt8)) = false := bne_eq_false_iff_eq.mpr c16; clear c16
        by_cases c17 : a0_0 = 3
        ·rw [if_pos c17] at H; have c17b0 : (a0_0 == 3) = true := beq_iff_eq.mpr c17; have c17b1 : (a0_0 != 3) = false := bne_eq_false_iff_eq.mpr c17; clear c17; have H' := Aside0.mk H; clear H; obtain ⟨hcz18_0, hcz18_1, hcz18_2, hcz18_3, hfz18_0, hfz18_1, hfz18_2, hfz18_3⟩ := S.c4 BK174.out; go_wp2
         repeat (go_quiet (fail); try go_wp2)
         go_meet
         case rel => exact ⟨_, (false), (by first | rfl | (simp; done) | (simp [*]; done)), H', ⟨by first | omega | exact Nat.le_refl _⟩, ⟨S.b BK174.out⟩, ⟨S.B⟩⟩
        ·rw [if_neg c17] at H; have c17b0 : (a0_0 == 3) = false := beq_eq_false_iff_ne.mpr c17; have c17b1 : (a0_0 != 3) = true := bne_iff_ne.mpr c17; have H' := Aside0.mk H; clear H; obtain ⟨hcz19_0, hcz19_1, hcz19_2, hcz19_3, hfz19_0, hfz19_1, hfz19_2, hfz19_3⟩ := S.c4 BK174.out; go_wp2
         repeat (go_quiet (fail); try go_wp2)
         go_meet
         case rel => exact ⟨_, (decide ((l0_2.length : Int) > 0)), (by first | rfl | (simp; done) | (simp [*]; done)), H', ⟨by first | omega | exact Nat.le_refl _⟩, ⟨S.b BK174.out⟩, ⟨S.B⟩⟩
       ·rw [if_neg c16] at H; have c16b0 : (a0_1.toList == ([] : List UInt8)) = false := beq_eq_false_iff_ne.mpr c16; have c16b1 : (a0_1.toList != ([] : List UInt8)) = true := bne_iff_ne.mpr c16; have H' := Aside0.mk H; clear H; obtain ⟨hcz20_0, hcz20_1, hcz20_2, hcz20_3, hfz20_0, hfz20_1, hfz20_2, hfz20_3⟩ := S.c4 BK174.out; go_wp2
        repeat (go_quiet (fail); try go_wp2)
        go_meet
        case rel => exact ⟨_, (true), (by first | rfl | (simp; done) | (simp [*]; done)), H', ⟨by first | omega | exact Nat.le_refl _⟩, ⟨S.b BK174.out⟩, ⟨S.B⟩⟩
 case rest =>
  clear HC2; (try clear c1); (try clear p2); (try clear c4); (try clear c4b0); (try clear c6); (try clear c6b0); (try clear c8); (try clear c8b0); (try clear c10); (try clear c10b0); (try clear c12); (try clear c12b0); (try clear c12b1); (try clear c13); (try clear c13b0); (try clear c13b1); (try clear c14); (try clear c16); (try clear c16b0); (try clear c16b1); (try clear c17); (try clear c17b0); (try clear c17b1); (try clear hcz11_0); (try clear hcz11_1); (try clear hcz11_2); (try clear hcz11_3); (try clear hcz14_0); (try clear hcz14_1); (try clear hcz14_2); (try clear hcz14_3); (try clear hcz15_0); (try clear hcz15_1); (try clear hcz15_2); (try clear hcz15_3); (try clear hcz18_0); (try clear hcz18_1); (try clear hcz18_2); (try clear hcz18_3); (try clear hcz19_0); (try clear hcz19_1); (try clear hcz19_2); (try clear hcz19_3); (try clear hcz20_0); (try clear hcz20_1); (try clear hcz20_2); (try clear hcz20_3); (try clear hcz5_0); (try clear hcz5_1); (try clear hcz5_2); (try clear hcz5_3); (try clear hcz7_0); (try clear hcz7_1); (try clear hcz7_2); (try clear hcz7_3); (try clear hcz9_0); (try clear hcz9_1); (try clear hcz9_2); (try clear hcz9_3); (try clear hfz11_0); (try clear hfz11_1); (try clear hfz11_2); (try clear hfz11_3); (try clear hfz14_0); (try clear hfz14_1); (try clear hfz14_2); (try clear hfz14_3); (try clear hfz15_0); (try clear hfz15_1); (try clear hfz15_2); (try clear hfz15_3); (try clear hfz18_0); (try clear hfz18_1); (try clear hfz18_2); (try clear hfz18_3); (try clear hfz19_0); (try clear hfz19_1); (try clear hfz19_2); (try clear hfz19_3); (try clear hfz20_0); (try clear hfz20_1); (try clear hfz20_2); (try clear hfz20_3); (try clear hfz5_0); (try clear hfz5_1); (try clear hfz5_2); (try clear hfz5_3); (try clear hfz7_0); (try clear hfz7_1); (try clear hfz7_2); (try clear hfz7_3); (try clear hfz9_0); (try clear hfz9_1); (try clear hfz9_2); (try clear hfz9_3); obtain ⟨kq, x42_1, rfl, HA, HJ1, BK174, HB⟩ := hcut
  cases kq with
  | zero => exact absurd HA.out (by simp [rubricref14_Right.j0])
  | succ kj1 =>
   have H := HA.out; clear HA; simp only [rubricref14_Right.j0] at H
   by_cases c21 : x42_1 = true
   ·subst c21; rw [if_pos rfl] at H; (try dsimp only at H); obtain rfl := Option.some.inj H; go_wp2
    repeat (go_quiet (fail); try go_wp2)
    go_ret; exact ⟨by first | rfl | (simp [errW_none, errW_some] <;> rfl) | (simp [*, errW_none, errW_some] <;> rfl), S.B⟩
   ·replace c21 := Bool.eq_false_iff.mpr c21; subst c21; rw [if_neg (show ¬ (false = true) by decide)] at H; (try dsimp only at H); have H' := Aside0.mk H; clear H; go_wp2
    repeat (go_quiet (fail); try go_wp2)
    go_loopg [3] kj1 (fun kq v3 w' => ∃ (x3_2 : Int), v3 = .int .i64 x3_2 ∧ Aside0 (rubricref14_Right.l0 kq x3_2 a0_0 a0_1 l0_2 a0_3 = some r) ∧ Aside0 (kq ≤ kj1) ∧ Aside0 (w'.heap[gb174]? = some (.cells #[.int .i64 a0_0, .string a0_1, (.slice A0_2 l0_2.length c0_2), .int .i64 a0_3] 38 (0, 0))) ∧ Aside0 (Below w.heap.size w w'))
    case atStart => exact ⟨(1), (by first | rfl | (simp; done) | (simp [*]; done)), H', ⟨Nat.le_refl _⟩, ⟨S.b BK174.out⟩, ⟨S.B⟩⟩
    case round =>
     clear H'; (try clear c1); (try clear c2); (try clear p2); (try clear c4); (try clear c4b0); (try clear c6); (try clear c6b0); (try clear c8); (try clear c8b0); (try clear c10); (try clear c10b0); (try clear c12); (try clear c12b0); (try clear c12b1); (try clear c13); (try clear c13b0); (try clear c13b1); (try clear c14); (try clear c16); (try clear c16b0); (try clear c16b1); (try clear c17); (try clear c17b0); (try clear c17b1); (try clear c21); (try clear hcz11_0); (try clear hcz11_1); (try clear hcz11_2); (try clear hcz11_3); (try clear hcz14_0); (try clear hcz14_1); (try clear hcz14_2); (try clear hcz14_3); (try clear hcz15_0); (try clear hcz15_1); (try clear hcz15_2); (try clear hcz15_3); (try clear hcz18_0); (try clear hcz18_1); (try clear hcz18_2); (try clear hcz18_3); (try clear hcz19_0); (try clear hcz19_1); (try clear hcz19_2); (try clear hcz19_3); (try clear hcz20_0); (try clear hcz20_1); (try clear hcz20_2); (try clear hcz20_3); (try clear hcz5_0); (try clear hcz5_1); (try clear hcz5_2); (try clear hcz5_3); (try clear hcz7_0); (try clear hcz7_1); (try clear hcz7_2); (try clear hcz7_3); (try clear hcz9_0); (try clear hcz9_1); (try clear hcz9_2); (try clear hcz9_3); (try clear hfz11_0); (try clear hfz11_1); (try clear hfz11_2); (try clear hfz11_3); (try clear hfz14_0); (try clear hfz14_1); (try clear hfz14_2); (try clear hfz14_3); (try clear hfz15_0); (try clear hfz15_1); (try clear hfz15_2); (try clear hfz15_3); (try clear hfz18_0); (try clear hfz18_1); (try clear hfz18_2); (try clear hfz18_3); (try clear hfz19_0); (try clear hfz19_1); (try clear hfz19_2); (try clear hfz19_3); (try clear hfz20_0); (try clear hfz20_1); (try clear hfz20_2); (try clear hfz20_3); (try clear hfz5_0); (try clear hfz5_1); (try clear hfz5_2); (try clear hfz5_3); (try clear hfz7_0); (try clear hfz7_1); (try clear hfz7_2); (try clear hfz7_3); (try clear hfz9_0); (try clear hfz9_1); (try clear hfz9_2); (try clear hfz9_3); (try clear p2); obtain ⟨x3_2, rfl, HA, HK2, BK174, HB⟩ := hrel
     cases gk with
     | zero => exact absurd HA.out (by simp [rubricref14_Right.l0])
     | succ k2 =>
      have H := HA.out; clear HA; simp only [rubricref14_Right.l0] at H
      by_cases c22 : x3_2 < (l0_2.length : Int)
      ·rw [if_pos c22] at H; have c22b0 : decide (x3_2 < (l0_2.length : Int)) = true := decide_eq_true c22; clear c22; obtain ⟨ji23, hji23⟩ : ∃ j_ : Int, (wrap64 (x3_2 - 1)) = j_ := ⟨_, rfl⟩; (replace H : (if 0 ≤ (ji23) then (if (ji23) < (l0_2.length : Int) then (if 0 ≤ x3_2 then (if ((Op.bytesLess ((rdOf ByteArray.empty l0_2 (ji23)).toList) ((rdOf ByteArray.empty l0_2 x3_2).toList)) = true) then (rubricref14_Right.l0 k2 (wrap64 (x3_2 + 1)) a0_0 a0_1 l0_2 a0_3) else (some false)) else (none)) else (none)) else (none)) = some r := by first | (rw [hji23] at H; exact H) | (simp only [hji23] at H ⊢; exact H)); have hji23w : (IntKind.i64.wrap (x3_2 - 1)) = ji23 := (i64_w _).trans hji23
       by_cases c24 : 0 ≤ (ji23)
       ·rw [if_pos c24] at H; have c24b0 : decide (0 ≤ (ji23)) = true := decide_eq_true c24; clear c24
        by_cases c25 : (ji23) < (l0_2.length : Int)
        ·rw [if_pos c25] at H; have c25b0 : decide ((ji23) < (l0_2.length : Int)) = true := decide_eq_true c25; clear c25
         by_cases c26 : 0 ≤ x3_2
         ·rw [if_pos c26] at H; have c26b0 : decide (0 ≤ x3_2) = true := decide_eq_true c26; clear c26
          by_cases c27 : ((Op.bytesLess ((rdOf ByteArray.empty l0_2 (ji23)).toList) ((rdOf ByteArray.empty l0_2 x3_2).toList)) = true)
          ·rw [if_pos c27] at H; have c27b0 : (Op.bytesLess ((rdOf ByteArray.empty l0_2 (ji23)).toList) ((rdOf ByteArray.empty l0_2 x3_2).toList)) = true := c27; clear c27; have H' := Aside0.mk H; clear H; obtain ⟨hcz28_0, hcz28_1, hcz28_2, hcz28_3, hfz28_0, hfz28_1, hfz28_2, hfz28_3⟩ := S.c4 BK174.out; have p175 : 0 ≤ ((ji23) : Int) := of_decide_eq_true (by first | (with_reducible assumption) | assumption); have q175 : (ji23) < (l0_2.length : Int) := of_decide_eq_true (by first | (with_reducible assumption) | assumption); obtain ⟨ad175, e175, hx175_0⟩ := Kd.at_string HR0_2.out (ji23) p175 q175; cases e175; replace hx175_0 := (HB.out.cell (World.block_lt_of_cell? w _ hx175_0)).trans hx175_0; replace p175 := eq_true p175; replace q175 := eq_true q175; have p176 : 0 ≤ (x3_2 : Int) := of_decide_eq_true (by first | (with_reducible assumption) | assumption); have q176 : x3_2 < (l0_2.length : Int) := of_decide_eq_true (by first | (with_reducible assumption) | assumption); obtain ⟨ad176, e176, hx176_0⟩ := Kd.at_string HR0_2.out x3_2 p176 q176; obtain rfl : ad175 = ad176 := (by injection e176); replace hx176_0 := (HB.out.cell (World.block_lt_of_cell? w _ hx176_0)).trans hx176_0; replace p176 := eq_true p176; replace q176 := eq_true q176; go_wp2
           repeat (go_quiet (fail); try go_wp2)
           go_roundg k2
           case measure => have := HJ1.out; have := HK2.out; omega
           case rel => exact ⟨(wrap64 (x3_2 + 1)), (by first | rfl | (simp; done) | (simp [*]; done)), H', ⟨by have := HJ1.out; have := HK2.out; omega⟩, ⟨S.b BK174.out⟩, ⟨S.B⟩⟩
          ·rw [if_neg c27] at H; (have c27b0 : (Op.bytesLess ((rdOf ByteArray.empty l0_2 (ji23)).toList) ((rdOf ByteArray.empty l0_2 x3_2).toList)) = false := by simpa using c27); clear c27; obtain rfl := Option.some.inj H; obtain ⟨hcz29_0, hcz29_1, hcz29_2, hcz29_3, hfz29_0, hfz29_1, hfz29_2, hfz29_3⟩ := S.c4 BK174.out; have p175 : 0 ≤ ((ji23) : Int) := of_decide_eq_true (by first | (with_reducible assumption) | assumption); have q175 : (ji23) < (l0_2.length : Int) := of_decide_eq_true (by first | (with_reducible assumption) | assumption); obtain ⟨ad175, e175, hx175_0⟩ := Kd.at_string HR0_2.out (ji23) p175 q175; cases e175; replace hx175_0 := (HB.out.cell (World.block_lt_of_cell? w _ hx175_0)).trans hx175_0; replace p175 := eq_true p175; replace q175 := eq_true q175; have p176 : 0 ≤ (x3_2 : Int) := of_decide_eq_true (by first | (with_reducible assumption) | assumption); have q176 : x3_2 < (l0_2.length : Int) := of_decide_eq_true (by first | (with_reducible assumption) | assumption); obtain ⟨ad176, e176, hx176_0⟩ := Kd.at_string HR0_2.out x3_2 p176 q176; obtain rfl : ad175 = ad176 := (by injection e176); replace hx176_0 := (HB.out.cell (World.block_lt_of_cell? w _ hx176_0)).trans hx176_0; replace p176 := eq_true p176; replace q176 := eq_true q176; go_wp2
           repeat (go_quiet (fail); try go_wp2)
           go_ret; exact ⟨by first | rfl | (simp [errW_none, errW_some] <;> rfl) | (simp only [← hji23]; first | rfl | (simp [errW_none, errW_some] <;> rfl)) | (simp [*, errW_none, errW_some] <;> rfl), S.B⟩
         ·rw [if_neg c26] at H; exact absurd H (by simp)
        ·rw [if_neg c25] at H; exact absurd H (by simp)
       ·rw [if_neg c24] at H; exact absurd H (by simp)
      ·rw [if_neg c22] at H; have c22b0 : decide (x3_2 < (l0_2.length : Int)) = false := decide_eq_false c22; clear c22; obtain rfl := Option.some.inj H; obtain ⟨hcz30_0, hcz30_1, hcz30_2, hcz30_3, hfz30_0, hfz30_1, hfz30_2, hfz30_3⟩ := S.c4 BK174.out; go_wp2
       repeat (go_quiet (fail); try go_wp2)
       go_ret; exact ⟨by first | rfl | (simp [errW_none, errW_some] <;> rfl) | (simp [*, errW_none, errW_some] <;> rfl), S.B⟩

/-! ### rubriclaw14_Of: function 15 -/
def rubriclaw14_Of.f (a0_0 : Int) (a0_1 : ByteArray) (l0_2 : List ByteArray) (a0_3 : Int) : Option (Int × ByteArray × List ByteArray × Int) := some (a0_0, a0_1, l0_2, a0_3)
set_option maxHeartbeats 8000000 in
set_option maxRecDepth 100000 in
theorem rubriclaw14_Of.calls (a0_0 : Int) (a0_1 : ByteArray) (P0_2_ : Nat → Prop) (A0_2 : Option Addr) (c0_2 : Nat) (l0_2 : List ByteArray) (a0_3 : Int) (r1 : Int) (r2 : ByteArray) (r3 : List ByteArray) (r4 : Int) (w : World) (hs0_2 : Kd.V Kd.string 9 w w.heap.size (fun k_ => P0_2_ k_) (.slice A0_2 l0_2.length c0_2) l0_2) (h : rubriclaw14_Of.f a0_0 a0_1 l0_2 a0_3 = some (r1, r2, r3, r4)) :
  Calls Try.prog 15 #[.agg #[.int .i64 a0_0, .string a0_1, .slice A0_2 l0_2.length c0_2, .int .i64 a0_3]] w fun e w' => ∃ v2_ : Value, e = .returned (.agg #[.int .i64 r1, .string r2, v2_, .int .i64 r4]) ∧ Kd.V Kd.string 9 w' w.heap.size (fun k_ => (P0_2_ k_ ∨ w.heap.size ≤ k_)) v2_ r3 ∧ Below w.heap.size w w' := by
 have hu26 := Try.underlying26; have hu38 := Try.underlying38; have HO0_2 := Aside0.mk (show Kd.V Kd.string 9 w w.heap.size (fun k_ => (P0_2_ k_ ∨ w.heap.size ≤ k_)) (.slice A0_2 l0_2.length c0_2) l0_2 from Kd.V_mono hs0_2 (fun k_ hk => .inl hk)); have HB := Aside0.mk (Below.refl w.heap.size w); have H : (some (a0_0, a0_1, l0_2, a0_3)) = some (r1, r2, r3, r4) := h; clear h; simp only [Option.some.injEq, Prod.mk.injEq] at H; obtain ⟨rfl, rfl, rfl, rfl⟩ := H
 go_enter Try.func15, Try.ntmps15
 go_wp2_with (first | ((with_reducible refine gate_dst (N := 1) rfl ?_); refine box_event ?hg (N := 1) ?hd (cs := #[.int .i64 a0_0, .string a0_1, .slice A0_2 l0_2.length c0_2, .int .i64 a0_3]) (t := 26) ?hr ?_; (case hd => rfl); (case hg => rfl); (case hr => first | (go_simp; done) | (go_simp; rfl)); intro gb177 hg w2 hbox hb; have n0_ := Aside0.mk (Kd.V_below (Kd.V_elderB (S.v HO0_2.out) gb177 (Nat.le_of_eq hg.symm)) hb); have n1_ := Aside0.mk (below_step S.B hb); have n2_ := Aside0.mk (hbox); have n3_ := Aside0.mk ((by rw [hg]; exact (below_size S.B) : w.heap.size ≤ gb177)); have n4_ := Aside0.mk ((by rw [hg]; exact (below_size S.B) : w.heap.size ≤ gb177)); clear HO0_2; clear HB; have HO0_2 := n0_; have HB := n1_; have BK177 := n2_; have GW177 := n3_; have GE177 := n4_; clear n0_ n1_ n2_ n3_ n4_; clear hb hbox hg) | ((with_reducible refine gate_dst (N := 2) rfl ?_); refine box_event ?hg (N := 2) ?hd (cs := #[.int .i64 0, .string (⟨#[]⟩ : ByteArray), .slice none 0 0, .int .i64 0]) (t := 38) ?hr ?_; (case hd => rfl); (case hg => rfl); (case hr => first | (go_simp; done) | (go_simp; rfl)); intro gb178 hg w3 hbox hb; have n0_ := Aside0.mk (Kd.V_below (Kd.V_elderB (S.v HO0_2.out) gb178 (Nat.le_of_eq hg.symm)) hb); have n1_ := Aside0.mk (blk_below (S.b BK177.out) hb); have n2_ := Aside0.mk (below_step S.B hb); have n3_ := Aside0.mk (hbox); have n4_ := Aside0.mk ((by rw [hg]; exact (below_size S.B) : w.heap.size ≤ gb178)); have n5_ := Aside0.mk ((by rw [hg]; exact (below_size S.B) : w.heap.size ≤ gb178)); have n6_ := Aside0.mk ((by rw [hg]; exact Nat.ne_of_lt (blk_lt (S.b BK177.out)) : gb177 ≠ gb178)); have n7_ := Aside0.mk ((by rw [hg]; exact Nat.ne_of_gt (blk_lt (S.b BK177.out)) : gb178 ≠ gb177)); clear HO0_2; clear BK177; clear HB; have HO0_2 := n0_; have BK177 := n1_; have HB := n2_; have BK178 := n3_; have GW178 := n4_; have GE178 := n5_; have NB177_178 := n6_; have NB178_177 := n7_; clear n0_ n1_ n2_ n3_ n4_ n5_ n6_ n7_; clear hb hbox hg; have hnb4 := NB177_178.out; have hnc4 := NB178_177.out; obtain ⟨hcz5_0, hcz5_1, hcz5_2, hcz5_3, hfz5_0, hfz5_1, hfz5_2, hfz5_3⟩ := S.c4 BK177.out; obtain ⟨hcz6_0, hcz6_1, hcz6_2, hcz6_3, hfz6_0, hfz6_1, hfz6_2, hfz6_3⟩ := S.c4 BK178.out))
 refine bodyPost_ret (results_cell_row rfl _ _ gb178 38 #[.int .i64 a0_0, .string a0_1, .slice A0_2 l0_2.length c0_2, .int .i64 a0_3] (0, 0) _ rfl (by (with_reducible repeat (first | refine blk_drewN ?_ _ | refine blk_drew ?_ | refine blk_alloc ?_ _)); refine blk_put (cs := #[.int .i64 a0_0, .string a0_1, .slice A0_2 l0_2.length c0_2, .int .i64 0]) ?_ 3 _ rfl; (with_reducible repeat (first | refine blk_drewN ?_ _ | refine blk_drew ?_ | refine blk_alloc ?_ _)); refine blk_put (cs := #[.int .i64 a0_0, .string a0_1, .slice none 0 0, .int .i64 0]) ?_ 2 _ rfl; (with_reducible repeat (first | refine blk_drewN ?_ _ | refine blk_drew ?_ | refine blk_alloc ?_ _)); refine blk_put (cs := #[.int .i64 a0_0, .string (⟨#[]⟩ : ByteArray), .slice none 0 0, .int .i64 0]) ?_ 1 _ rfl; (with_reducible repeat (first | refine blk_drewN ?_ _ | refine blk_drew ?_ | refine blk_alloc ?_ _)); refine blk_put (cs := #[.int .i64 0, .string (⟨#[]⟩ : ByteArray), .slice none 0 0, .int .i64 0]) ?_ 0 _ rfl; (with_reducible repeat (first | refine blk_drewN ?_ _ | refine blk_drew ?_ | refine blk_alloc ?_ _)); exact BK178.out) Try.underlying38 rfl (by kernel_rfl)) rfl ?_; exact ⟨_, by first | rfl | (simp [errW_none, errW_some] <;> rfl) | (simp [*, errW_none, errW_some] <;> rfl), by (with_reducible repeat (first | apply Kd.V_alloc | apply Kd.V_drewN | apply Kd.V_drew)); exact Kd.V_mono (Kd.V_far (p := ⟨gb178, 3, none⟩) (Kd.V_far (p := ⟨gb178, 2, none⟩) (Kd.V_far (p := ⟨gb178, 1, none⟩) (Kd.V_far (p := ⟨gb178, 0, none⟩) (Kd.V_mono HO0_2.out (fun k_ hk => (⟨hk, hk.2⟩ : _ ∧ k_ ≠ gb178))) (fun _ hk => hk.2) (.int .i64 a0_0)) (fun _ hk => hk.2) (.string a0_1)) (fun _ hk => hk.2) (.slice A0_2 l0_2.length c0_2)) (fun _ hk => hk.2) (.int .i64 a0_3)) (fun _ hk => hk.1.1.1), S.B⟩

/-! ### rubricref14_Allows: function 18 -/
def rubricref14_Allows.l0 : Nat → ByteArray → Int → Int → ByteArray → List ByteArray → Int → Option (Bool)
 | 0, _, _, _, _, _, _ => none
 | k + 1, x1, x5, x180000, x180001, x180002, x180003 => if x5 < (x180002.length : Int) then (if 0 ≤ x5 then (if (rdOf ByteArray.empty x180002 x5).toList = x1.toList then (some true) else (rubricref14_Allows.l0 k x1 (wrap64 (x5 + 1)) x180000 x180001 x180002 x180003)) else (none)) else (some false)
def rubricref14_Allows.f (k : Nat) (a0_0 : Int) (a0_1 : ByteArray) (l0_2 : List ByteArray) (a0_3 : Int) (a1 : ByteArray) : Option (Bool) := if a0_0 = 1 then (some true) else (if a0_0 = 2 then (if a1.toList = ([] : List UInt8) then (some false) else (some (a1.toList != a0_1.toList))) else (rubricref14_Allows.l0 k a1 0 a0_0 a0_1 l0_2 a0_3))
theorem rubricref14_Allows.mono_l : ∀ k, (∀ y0 y1 y2 y3 y4 y5, LeO (rubricref14_Allows.l0 k y0 y1 y2 y3 y4 y5) (rubricref14_Allows.l0 (k + 1) y0 y1 y2 y3 y4 y5))
 | 0 => fun _ _ _ _ _ _ r h => by simp [rubricref14_Allows.l0] at h
 | k + 1 => by
  have ih0 := rubricref14_Allows.mono_l k
  ·intro y0 y1 y2 y3 y4 y5
   unfold rubricref14_Allows.l0
   repeat' first
   | (with_reducible exact ih0 _ _ _ _ _ _)
   | (with_reducible exact LeO.refl _)
   | (with_reducible exact LeO.none _)
   | (with_reducible refine LeO.ite ?_ ?_)
   | (with_reducible refine LeO.bind ?_ (fun _ => ?_))
   | exact ih0 _ _ _ _ _ _
   | exact LeO.none _
   | refine LeO.ite ?_ ?_
   | refine LeO.bind ?_ (fun _ => ?_)
theorem rubricref14_Allows.mono : ∀ a0 a1 a2 a3 a4 k, LeO (rubricref14_Allows.f k a0 a1 a2 a3 a4) (rubricref14_Allows.f (k + 1) a0 a1 a2 a3 a4) := by
 intro a0 a1 a2 a3 a4 k; have ih0 := rubricref14_Allows.mono_l k
 unfold rubricref14_Allows.f
 repeat' first
   | (with_reducible exact ih0 _ _ _ _ _ _)
   | (with_reducible exact LeO.refl _)
   | (with_reducible exact LeO.none _)
   | (with_reducible refine LeO.ite ?_ ?_)
   | (with_reducible refine LeO.bind ?_ (fun _ => ?_))
   | exact ih0 _ _ _ _ _ _
   | exact LeO.none _
   | refine LeO.ite ?_ ?_
   | refine LeO.bind ?_ (fun _ => ?_)
set_option maxHeartbeats 8000000 in
set_option maxRecDepth 100000 in
theorem rubricref14_Allows.calls (k : Nat) (a0_0 : Int) (a0_1 : ByteArray) (A0_2 : Option Addr) (c0_2 : Nat) (l0_2 : List ByteArray) (a0_3 : Int) (a1 : ByteArray) (r : Bool) (w : World) (hr0_2 : Kd.C Kd.string w A0_2 l0_2.length l0_2) (hc0_2 : l0_2.length ≤ c0_2) (h : rubricref14_Allows.f k a0_0 a0_1 l0_2 a0_3 a1 = some r) :
  Calls Try.prog 18 #[.agg #[.int .i64 a0_0, .string a0_1, .slice A0_2 l0_2.length c0_2, .int .i64 a0_3], .string a1] w fun e w' => e = .returned (.bool r) ∧ Below w.heap.size w w' := by
 have hu38 := Try.underlying38; have HR0_2 := Aside0.mk hr0_2; have HC0_2 := Aside0.mk hc0_2; clear hr0_2 hc0_2; have HB := Aside0.mk (Below.refl w.heap.size w); have H : (if a0_0 = 1 then (some true) else (if a0_0 = 2 then (if a1.toList = ([] : List UInt8) then (some false) else (some (a1.toList != a0_1.toList))) else (rubricref14_Allows.l0 k a1 0 a0_0 a0_1 l0_2 a0_3))) = some r := h; clear h
 by_cases c3 : a0_0 = 1
 ·rw [if_pos c3] at H; have c3b0 : (a0_0 == 1) = true := beq_iff_eq.mpr c3; have c3b1 : (a0_0 != 1) = false := bne_eq_false_iff_eq.mpr c3; clear c3; obtain rfl := Option.some.inj H
  go_enter Try.func18, Try.ntmps18
  go_wp2_with (first | ((with_reducible refine gate_dst (N := 2) rfl ?_); refine box_event ?hg (N := 2) ?hd (cs := #[.int .i64 a0_0, .string a0_1, .slice A0_2 l0_2.length c0_2, .int .i64 a0_3]) (t := 38) ?hr ?_; (case hd => rfl); (case hg => rfl); (case hr => first | (go_simp; done) | (go_simp; rfl)); intro gb179 hg w4 hbox hb; have n0_ := Aside0.mk (below_step S.B hb); have n1_ := Aside0.mk (hbox); have n2_ := Aside0.mk ((by rw [hg]; exact (below_size S.B) : w.heap.size ≤ gb179)); have n3_ := Aside0.mk ((by rw [hg]; exact (below_size S.B) : w.heap.size ≤ gb179)); clear HB; have HB := n0_; have BK179 := n1_; have GW179 := n2_; have GE179 := n3_; clear n0_ n1_ n2_ n3_; clear hb hbox hg; obtain ⟨hcz5_0, hcz5_1, hcz5_2, hcz5_3, hfz5_0, hfz5_1, hfz5_2, hfz5_3⟩ := S.c4 BK179.out))
  go_ret; exact ⟨by first | rfl | (simp [errW_none, errW_some] <;> rfl) | (simp [*, errW_none, errW_some] <;> rfl), S.B⟩
 ·rw [if_neg c3] at H; have c3b0 : (a0_0 == 1) = false := beq_eq_false_iff_ne.mpr c3; have c3b1 : (a0_0 != 1) = true := bne_iff_ne.mpr c3
  by_cases c6 : a0_0 = 2
  ·rw [if_pos c6] at H; have c6b0 : (a0_0 == 2) = true := beq_iff_eq.mpr c6; have c6b1 : (a0_0 != 2) = false := bne_eq_false_iff_eq.mpr c6; clear c6
   by_cases c7 : a1.toList = ([] : List UInt8)
   ·rw [if_pos c7] at H; have c7b0 : (a1.toList == ([] : List UInt8)) = true := beq_iff_eq.mpr c7; have c7b1 : (a1.toList != ([] : List UInt8)) = false := bne_eq_false_iff_eq.mpr c7; clear c7; obtain rfl := Option.some.inj H
    go_enter Try.func18, Try.ntmps18
    go_wp2_with (first | ((with_reducible refine gate_dst (N := 2) rfl ?_); refine box_event ?hg (N := 2) ?hd (cs := #[.int .i64 a0_0, .string a0_1, .slice A0_2 l0_2.length c0_2, .int .i64 a0_3]) (t := 38) ?hr ?_; (case hd => rfl); (case hg => rfl); (case hr => first | (go_simp; done) | (go_simp; rfl)); intro gb179 hg w8 hbox hb; have n0_ := Aside0.mk (below_step S.B hb); have n1_ := Aside0.mk (hbox); have n2_ := Aside0.mk ((by rw [hg]; exact (below_size S.B) : w.heap.size ≤ gb179)); have n3_ := Aside0.mk ((by rw [hg]; exact (below_size S.B) : w.heap.size ≤ gb179)); clear HB; have HB := n0_; have BK179 := n1_; have GW179 := n2_; have GE179 := n3_; clear n0_ n1_ n2_ n3_; clear hb hbox hg; obtain ⟨hcz9_0, hcz9_1, hcz9_2, hcz9_3, hfz9_0, hfz9_1, hfz9_2, hfz9_3⟩ := S.c4 BK179.out))
    go_ret; exact ⟨by first | rfl | (simp [errW_none, errW_some] <;> rfl) | (simp [*, errW_none, errW_some] <;> rfl), S.B⟩
   ·rw [if_neg c7] at H; have c7b0 : (a1.toList == ([] : List UInt8)) = false := beq_eq_false_iff_ne.mpr c7; have c7b1 : (a1.toList != ([] : List UInt8)) = true := bne_iff_ne.mpr c7; obtain rfl := Option.some.inj H
    go_enter Try.func18, Try.ntmps18
    go_wp2_with (first | ((with_reducible refine gate_dst (N := 2) rfl ?_); refine box_event ?hg (N := 2) ?hd (cs := #[.int .i64 a0_0, .string a0_1, .slice A0_2 l0_2.length c0_2, .int .i64 a0_3]) (t := 38) ?hr ?_; (case hd => rfl); (case hg => rfl); (case hr => first | (go_simp; done) | (go_simp; rfl)); intro gb179 hg w10 hbox hb; have n0_ := Aside0.mk (below_step S.B hb); have n1_ := Aside0.mk (hbox); have n2_ := Aside0.mk ((by rw [hg]; exact (below_size S.B) : w.heap.size ≤ gb179)); have n3_ := Aside0.mk ((by rw [hg]; exact (below_size S.B) : w.heap.size ≤ gb179)); clear HB; have HB := n0_; have BK179 := n1_; have GW179 := n2_; have GE179 := n3_; clear n0_ n1_ n2_ n3_; clear hb hbox hg; obtain ⟨hcz11_0, hcz11_1, hcz11_2, hcz11_3, hfz11_0, hfz11_1, hfz11_2, hfz11_3⟩ := S.c4 BK179.out))
    go_ret; exact ⟨by first | rfl | (simp [errW_none, errW_some] <;> rfl) | (simp [*, errW_none, errW_some] <;> rfl), S.B⟩
  ·rw [if_neg c6] at H; have c6b0 : (a0_0 == 2) = false := beq_eq_false_iff_ne.mpr c6; have c6b1 : (a0_0 != 2) = true := bne_iff_ne.mpr c6; have H' := Aside0.mk H; clear H
   go_enter Try.func18, Try.ntmps18
   go_wp2_with (first | ((with_reducible refine gate_dst (N := 2) rfl ?_); refine box_event ?hg (N := 2) ?hd (cs := #[.int .i64 a0_0, .string a0_1, .slice A0_2 l0_2.length c0_2, .int .i64 a0_3]) (t := 38) ?hr ?_; (case hd => rfl); (case hg => rfl); (case hr => first | (go_simp; done) | (go_simp; rfl)); intro gb179 hg w12 hbox hb; have n0_ := Aside0.mk (below_step S.B hb); have n1_ := Aside0.mk (hbox); have n2_ := Aside0.mk ((by rw [hg]; exact (below_size S.B) : w.heap.size ≤ gb179)); have n3_ := Aside0.mk ((by rw [hg]; exact (below_size S.B) : w.heap.size ≤ gb179)); clear HB; have HB := n0_; have BK179 := n1_; have GW179 := n2_; have GE179 := n3_; clear n0_ n1_ n2_ n3_; clear hb hbox hg; obtain ⟨hcz13_0, hcz13_1, hcz13_2, hcz13_3, hfz13_0, hfz13_1, hfz13_2, hfz13_3⟩ := S.c4 BK179.out))
   go_loopg [5] k (fun kq v5 w' => ∃ (x5_1 : Int), v5 = .int .i64 x5_1 ∧ Aside0 (rubricref14_Allows.l0 kq a1 x5_1 a0_0 a0_1 l0_2 a0_3 = some r) ∧ Aside0 (kq ≤ k) ∧ Aside0 (w'.heap[gb179]? = some (.cells #[.int .i64 a0_0, .string a0_1, (.slice A0_2 l0_2.length c0_2), .int .i64 a0_3] 38 (0, 0))) ∧ Aside0 (Below w.heap.size w w'))
   case atStart => exact ⟨(0), (by first | rfl | (simp; done) | (simp [*]; done)), H', ⟨Nat.le_refl _⟩, ⟨S.b BK179.out⟩, ⟨S.B⟩⟩
   case round =>
    clear H'; (try clear c1); (try clear p2); (try clear c3); (try clear c3b0); (try clear c3b1); (try clear c6); (try clear c6b0); (try clear c6b1); (try clear c7); (try clear c7b0); (try clear c7b1); (try clear hcz11_0); (try clear hcz11_1); (try clear hcz11_2); (try clear hcz11_3); (try clear hcz13_0); (try clear hcz13_1); (try clear hcz13_2); (try clear hcz13_3); (try clear hcz5_0); (try clear hcz5_1); (try clear hcz5_2); (try clear hcz5_3); (try clear hcz9_0); (try clear hcz9_1); (try clear hcz9_2); (try clear hcz9_3); (try clear hfz11_0); (try clear hfz11_1); (try clear hfz11_2); (try clear hfz11_3); (try clear hfz13_0); (try clear hfz13_1); (try clear hfz13_2); (try clear hfz13_3); (try clear hfz5_0); (try clear hfz5_1); (try clear hfz5_2); (try clear hfz5_3); (try clear hfz9_0); (try clear hfz9_1); (try clear hfz9_2); (try clear hfz9_3); obtain ⟨x5_1, rfl, HA, HK1, BK179, HB⟩ := hrel
    cases gk with
    | zero => exact absurd HA.out (by simp [rubricref14_Allows.l0])
    | succ k1 =>
     have H := HA.out; clear HA; simp only [rubricref14_Allows.l0] at H
     by_cases c14 : x5_1 < (l0_2.length : Int)
     ·rw [if_pos c14] at H; have c14b0 : decide (x5_1 < (l0_2.length : Int)) = true := decide_eq_true c14; clear c14
      by_cases c15 : 0 ≤ x5_1
      ·rw [if_pos c15] at H; have c15b0 : decide (0 ≤ x5_1) = true := decide_eq_true c15; clear c15
       by_cases c16 : (rdOf ByteArray.empty l0_2 x5_1).toList = a1.toList
       ·rw [if_pos c16] at H; have c16b0 : ((rdOf ByteArray.empty l0_2 x5_1).toList == a1.toList) = true := beq_iff_eq.mpr c16; have c16b1 : ((rdOf ByteArray.empty l0_2 x5_1).toList != a1.toList) = false := bne_eq_false_iff_eq.mpr c16; clear c16; obtain rfl := Option.some.inj H; obtain ⟨hcz17_0, hcz17_1, hcz17_2, hcz17_3, hfz17_0, hfz17_1, hfz17_2, hfz17_3⟩ := S.c4 BK179.out; have p180 : 0 ≤ (x5_1 : Int) := of_decide_eq_true (by first | (with_reducible assumption) | assumption); have q180 : x5_1 < (l0_2.length : Int) := of_decide_eq_true (by first | (with_reducible assumption) | assumption); obtain ⟨ad180, e180, hx180_0⟩ := Kd.at_string HR0_2.out x5_1 p180 q180; cases e180; replace hx180_0 := (HB.out.cell (World.block_lt_of_cell? w _ hx180_0)).trans hx180_0; replace p180 := eq_true p180; replace q180 := eq_true q180; go_wp2; go_ret; exact ⟨by first | rfl | (simp [errW_none, errW_some] <;> rfl) | (simp [*, errW_none, errW_some] <;> rfl), S.B⟩
       ·rw [if_neg c16] at H; have c16b0 : ((rdOf ByteArray.empty l0_2 x5_1).toList == a1.toList) = false := beq_eq_false_iff_ne.mpr c16; have c16b1 : ((rdOf ByteArray.empty l0_2 x5_1).toList != a1.toList) = true := bne_iff_ne.mpr c16; have H' := Aside0.mk H; clear H; obtain ⟨hcz18_0, hcz18_1, hcz18_2, hcz18_3, hfz18_0, hfz18_1, hfz18_2, hfz18_3⟩ := S.c4 BK179.out; have p180 : 0 ≤ (x5_1 : Int) := of_decide_eq_true (by first | (with_reducible assumption) | assumption); have q180 : x5_1 < (l0_2.length : Int) := of_decide_eq_true (by first | (with_reducible assumption) | assumption); obtain ⟨ad180, e180, hx180_0⟩ := Kd.at_string HR0_2.out x5_1 p180 q180; cases e180; replace hx180_0 := (HB.out.cell (World.block_lt_of_cell? w _ hx180_0)).trans hx180_0; replace p180 := eq_true p180; replace q180 := eq_true q180; go_wp2
        go_roundg k1
        case measure => have := HK1.out; omega
        case rel => exact ⟨(wrap64 (x5_1 + 1)), (by first | rfl | (simp; done) | (simp [*]; done)), H', ⟨by have := HK1.out; omega⟩, ⟨S.b BK179.out⟩, ⟨S.B⟩⟩
      ·rw [if_neg c15] at H; exact absurd H (by simp)
     ·rw [if_neg c14] at H; have c14b0 : decide (x5_1 < (l0_2.length : Int)) = false := decide_eq_false c14; clear c14; obtain rfl := Option.some.inj H; obtain ⟨hcz19_0, hcz19_1, hcz19_2, hcz19_3, hfz19_0, hfz19_1, hfz19_2, hfz19_3⟩ := S.c4 BK179.out; go_wp2; go_ret; exact ⟨by first | rfl | (simp [errW_none, errW_some] <;> rfl) | (simp [*, errW_none, errW_some] <;> rfl), S.B⟩

end Go.Proofs.Ytfpedicgeepikaa.Pr
