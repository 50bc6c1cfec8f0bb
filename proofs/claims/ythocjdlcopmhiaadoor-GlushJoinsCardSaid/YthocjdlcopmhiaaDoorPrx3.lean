import Derived.Test.YthocjdlcopmhiaaDoorS3
import Derived.Test.YthocjdlcopmhiaaDoorG1
import Derived.Test.YthocjdlcopmhiaaDoorPrx0
namespace Go.Proofs.YthocjdlcopmhiaaDoor.Pr
open Go.RowKit Go.Proofs.YthocjdlcopmhiaaDoorW.PrintWords Go.Proofs.YthocjdlcopmhiaaDoorW.PrintLast Go.Proofs.YthocjdlcopmhiaaDoorW.PrintMore
attribute [local go_sem] max2_int min2_int max_two min_two max_three min_three max_four min_four   -- for this text's walks alone
set_option linter.unusedVariables false
set_option linter.unusedSimpArgs false
def glush_wrong.j0 : Nat → Int → Bool → Int → Int → Int → Int → List (S24) → Option (Bool)
 | 0, _, _, _, _, _, _, _ => none
 | k + 1, x4, x5, x116000, x116001, x116002, x116003, x116004 => if x5 = true then (some false) else (if x4 = 2 then (some (decide (x116001 < 0))) else (if x4 = 5 then (if (x116004.length : Int) = 1 then (if x116002 < 0 then (some true) else (if x116002 > 1000 then (some true) else (if x116003 = (-1) then (some false) else (if x116003 < x116002 then (some true) else (some (decide (x116003 > 1000))))))) else (some true)) else (some true)))
def glush_wrong.f (k : Nat) (a0_0 : Int) (a0_1 : Int) (a0_2 : Int) (a0_3 : Int) (l0_4 : List (S24)) : Option (Bool) := if a0_0 = 1 then (glush_wrong.j0 k a0_0 (a0_0 == 1) a0_0 a0_1 a0_2 a0_3 l0_4) else (if a0_0 = 6 then (glush_wrong.j0 k a0_0 (a0_0 == 6) a0_0 a0_1 a0_2 a0_3 l0_4) else (if a0_0 = 3 then (glush_wrong.j0 k a0_0 (a0_0 == 3) a0_0 a0_1 a0_2 a0_3 l0_4) else (glush_wrong.j0 k a0_0 (a0_0 == 4) a0_0 a0_1 a0_2 a0_3 l0_4)))
theorem glush_wrong.mono_l : ∀ k, (∀ y0 y1 y2 y3 y4 y5 y6, LeO (glush_wrong.j0 k y0 y1 y2 y3 y4 y5 y6) (glush_wrong.j0 (k + 1) y0 y1 y2 y3 y4 y5 y6))
 | 0 => fun _ _ _ _ _ _ _ r h => by simp [glush_wrong.j0] at h
 | k + 1 => by
  have ih0 := glush_wrong.mono_l k
  ·intro y0 y1 y2 y3 y4 y5 y6
   unfold glush_wrong.j0
   repeat' first
   | (with_reducible exact ih0 _ _ _ _ _ _ _)
   | (with_reducible exact LeO.refl _)
   | (with_reducible exact LeO.none _)
   | (with_reducible refine LeO.ite ?_ ?_)
   | (with_reducible refine LeO.bind ?_ (fun _ => ?_))
   | exact ih0 _ _ _ _ _ _ _
   | exact LeO.none _
   | refine LeO.ite ?_ ?_
   | refine LeO.bind ?_ (fun _ => ?_)
theorem glush_wrong.mono : ∀ a0 a1 a2 a3 a4 k, LeO (glush_wrong.f k a0 a1 a2 a3 a4) (glush_wrong.f (k + 1) a0 a1 a2 a3 a4) := by
 intro a0 a1 a2 a3 a4 k; have ih0 := glush_wrong.mono_l k
 unfold glush_wrong.f
 repeat' first
   | (with_reducible exact ih0 _ _ _ _ _ _ _)
   | (with_reducible exact LeO.refl _)
   | (with_reducible exact LeO.none _)
   | (with_reducible refine LeO.ite ?_ ?_)
   | (with_reducible refine LeO.bind ?_ (fun _ => ?_))
   | exact ih0 _ _ _ _ _ _ _
   | exact LeO.none _
   | refine LeO.ite ?_ ?_
   | refine LeO.bind ?_ (fun _ => ?_)
set_option maxHeartbeats 8000000 in
set_option maxRecDepth 100000 in
theorem glush_wrong.calls (k : Nat) (a0_0 : Int) (a0_1 : Int) (a0_2 : Int) (a0_3 : Int) (A0_4 : Option Addr) (c0_4 : Nat) (l0_4 : List (S24)) (r : Bool) (w : World) (hr0_4 : Kd.C k24 w A0_4 l0_4.length l0_4) (hc0_4 : l0_4.length ≤ c0_4) (h : glush_wrong.f k a0_0 a0_1 a0_2 a0_3 l0_4 = some r) :
  Calls Tryd.prog 16 #[.agg #[.int .i64 a0_0, .int .i64 a0_1, .int .i64 a0_2, .int .i64 a0_3, .slice A0_4 l0_4.length c0_4]] w fun e w' => e = .returned (.bool r) ∧ Below w.heap.size w w' := by
 have hu24 := Tryd.underlying24; have HR0_4 := Aside0.mk hr0_4; have HC0_4 := Aside0.mk hc0_4; clear hr0_4 hc0_4; have HB := Aside0.mk (Below.refl w.heap.size w); have H : (if a0_0 = 1 then (glush_wrong.j0 k a0_0 (a0_0 == 1) a0_0 a0_1 a0_2 a0_3 l0_4) else (if a0_0 = 6 then (glush_wrong.j0 k a0_0 (a0_0 == 6) a0_0 a0_1 a0_2 a0_3 l0_4) else (if a0_0 = 3 then (glush_wrong.j0 k a0_0 (a0_0 == 3) a0_0 a0_1 a0_2 a0_3 l0_4) else (glush_wrong.j0 k a0_0 (a0_0 == 4) a0_0 a0_1 a0_2 a0_3 l0_4)))) = some r := h; clear h; have HC2 := Aside0.mk H; clear H
 go_enter Tryd.func16, Tryd.ntmps16
 go_upto_if 5 with (first | ((with_reducible refine gate_dst (N := 1) rfl ?_); refine box_event ?hg (N := 1) ?hd (cs := #[.int .i64 a0_0, .int .i64 a0_1, .int .i64 a0_2, .int .i64 a0_3, .slice A0_4 l0_4.length c0_4]) (t := 24) ?hr ?_; (case hd => rfl); (case hg => rfl); (case hr => first | (go_simp; done) | (go_simp; rfl)); intro gb115 hg w3 hbox hb; have n0_ := Aside0.mk (below_step S.B hb); have n1_ := Aside0.mk (hbox); have n2_ := Aside0.mk ((by rw [hg]; exact (below_size S.B) : w.heap.size ≤ gb115)); have n3_ := Aside0.mk ((by rw [hg]; exact (below_size S.B) : w.heap.size ≤ gb115)); clear HB; have HB := n0_; have BK115 := n1_; have GW115 := n2_; have GE115 := n3_; clear n0_ n1_ n2_ n3_; clear hb hbox hg; have hcz4_0 : w3.cell? ⟨gb115, 0, none⟩ = some (.int .i64 a0_0) := S.k BK115.out 0; have hcz4_1 : w3.cell? ⟨gb115, 1, none⟩ = some (.int .i64 a0_1) := S.k BK115.out 1; have hcz4_2 : w3.cell? ⟨gb115, 2, none⟩ = some (.int .i64 a0_2) := S.k BK115.out 2; have hcz4_3 : w3.cell? ⟨gb115, 3, none⟩ = some (.int .i64 a0_3) := S.k BK115.out 3; have hcz4_4 : w3.cell? ⟨gb115, 4, none⟩ = some (.slice A0_4 l0_4.length c0_4) := S.k BK115.out 4; have hfz4_0 := blk_frozen BK115.out 0; have hfz4_1 := blk_frozen BK115.out 1; have hfz4_2 := blk_frozen BK115.out 2; have hfz4_3 := blk_frozen BK115.out 3; have hfz4_4 := blk_frozen BK115.out 4))
 (try simp only [Act.put, List.setIfInBounds_toArray, List.set_cons_zero, List.set_cons_succ])
 go_cut [5] (fun v5 wc => ∃ (kq : Nat) (x5_1 : Bool), v5 = .bool x5_1 ∧ Aside0 (glush_wrong.j0 kq a0_0 x5_1 a0_0 a0_1 a0_2 a0_3 l0_4 = some r) ∧ Aside0 (kq ≤ k) ∧ Aside0 (wc.heap[gb115]? = some (.cells #[.int .i64 a0_0, .int .i64 a0_1, .int .i64 a0_2, .int .i64 a0_3, (.slice A0_4 l0_4.length c0_4)] 24 (0, 0))) ∧ Aside0 (Below w.heap.size w wc))
 case first =>
  have H := HC2.out; clear HC2
  by_cases c5 : a0_0 = 1
  ·rw [if_pos c5] at H; have c5b0 : (a0_0 == 1) = true := beq_iff_eq.mpr c5; have c5b1 : (a0_0 != 1) = false := bne_eq_false_iff_eq.mpr c5; clear c5; (first | rw [c5b0] | (simp only [i64_w, i32_w]; rw [c5b0]) | skip); have H' := Aside0.mk H; clear H; go_wp2
   go_meet
   case rel => exact ⟨_, ((a0_0 == 1)), (by first | rfl | (simp; done) | (simp [*]; done)), H', ⟨by first | omega | exact Nat.le_refl _⟩, ⟨S.b BK115.out⟩, ⟨S.B⟩⟩
  ·rw [if_neg c5] at H; have c5b0 : (a0_0 == 1) = false := beq_eq_false_iff_ne.mpr c5; have c5b1 : (a0_0 != 1) = true := bne_iff_ne.mpr c5; (first | rw [c5b0] | (simp only [i64_w, i32_w]; rw [c5b0]) | skip)
   by_cases c6 : a0_0 = 6
   ·rw [if_pos c6] at H; have c6b0 : (a0_0 == 6) = true := beq_iff_eq.mpr c6; have c6b1 : (a0_0 != 6) = false := bne_eq_false_iff_eq.mpr c6; clear c6; have H' := Aside0.mk H; clear H; go_wp2
    go_meet
    case rel => exact ⟨_, ((a0_0 == 6)), (by first | rfl | (simp; done) | (simp [*]; done)), H', ⟨by first | omega | exact Nat.le_refl _⟩, ⟨S.b BK115.out⟩, ⟨S.B⟩⟩
   ·rw [if_neg c6] at H; have c6b0 : (a0_0 == 6) = false := beq_eq_false_iff_ne.mpr c6; have c6b1 : (a0_0 != 6) = true := bne_iff_ne.mpr c6
    by_cases c7 : a0_0 = 3
    ·rw [if_pos c7] at H; have c7b0 : (a0_0 == 3) = true := beq_iff_eq.mpr c7; have c7b1 : (a0_0 != 3) = false := bne_eq_false_iff_eq.mpr c7; clear c7; have H' := Aside0.mk H; clear H; go_wp2
     go_meet
     case rel => exact ⟨_, ((a0_0 == 3)), (by first | rfl | (simp; done) | (simp [*]; done)), H', ⟨by first | omega | exact Nat.le_refl _⟩, ⟨S.b BK115.out⟩, ⟨S.B⟩⟩
    ·rw [if_neg c7] at H; have c7b0 : (a0_0 == 3) = false := beq_eq_false_iff_ne.mpr c7; have c7b1 : (a0_0 != 3) = true := bne_iff_ne.mpr c7; have H' := Aside0.mk H; clear H; go_wp2
     go_meet
     case rel => exact ⟨_, ((a0_0 == 4)), (by first | rfl | (simp; done) | (simp [*]; done)), H', ⟨by first | omega | exact Nat.le_refl _⟩, ⟨S.b BK115.out⟩, ⟨S.B⟩⟩
 case rest =>
  clear HC2; (try clear c1); (try clear p2); (try clear c5); (try clear c5b0); (try clear c5b1); (try clear c6); (try clear c6b0); (try clear c6b1); (try clear c7); (try clear c7b0); (try clear c7b1); (try clear hcz4_0); (try clear hcz4_1); (try clear hcz4_2); (try clear hcz4_3); (try clear hcz4_4); (try clear hfz4_0); (try clear hfz4_1); (try clear hfz4_2); (try clear hfz4_3); (try clear hfz4_4); obtain ⟨kq, x5_1, rfl, HA, HJ1, BK115, HB⟩ := hcut
  cases kq with
  | zero => exact absurd HA.out (by simp [glush_wrong.j0])
  | succ kj1 =>
   have H := HA.out; clear HA; simp only [glush_wrong.j0] at H
   by_cases c8 : x5_1 = true
   ·subst c8; (have H1 : (some false) = some r := by rw [if_pos rfl] at H; exact H); clear H; have H := H1; clear H1; obtain rfl := Option.some.inj H; go_wp2; go_ret; exact ⟨by first | rfl | (simp [errW_none, errW_some] <;> rfl) | (simp [*, errW_none, errW_some] <;> rfl), S.B⟩
   ·replace c8 := Bool.eq_false_iff.mpr c8; subst c8; (have H1 : (if a0_0 = 2 then (some (decide (a0_1 < 0))) else (if a0_0 = 5 then (if (l0_4.length : Int) = 1 then (if a0_2 < 0 then (some true) else (if a0_2 > 1000 then (some true) else (if a0_3 = (-1) then (some false) else (if a0_3 < a0_2 then (some true) else (some (decide (a0_3 > 1000))))))) else (some true)) else (some true))) = some r := by rw [if_neg (show ¬ (false = true) by decide)] at H; exact H); clear H; have H := H1; clear H1
    by_cases c9 : a0_0 = 2
    ·rw [if_pos c9] at H; have c9b0 : (a0_0 == 2) = true := beq_iff_eq.mpr c9; have c9b1 : (a0_0 != 2) = false := bne_eq_false_iff_eq.mpr c9; clear c9; obtain rfl := Option.some.inj H; have hcz10_0 : wc.cell? ⟨gb115, 0, none⟩ = some (.int .i64 a0_0) := S.k BK115.out 0; have hcz10_1 : wc.cell? ⟨gb115, 1, none⟩ = some (.int .i64 a0_1) := S.k BK115.out 1; have hcz10_2 : wc.cell? ⟨gb115, 2, none⟩ = some (.int .i64 a0_2) := S.k BK115.out 2; have hcz10_3 : wc.cell? ⟨gb115, 3, none⟩ = some (.int .i64 a0_3) := S.k BK115.out 3; have hcz10_4 : wc.cell? ⟨gb115, 4, none⟩ = some (.slice A0_4 l0_4.length c0_4) := S.k BK115.out 4; have hfz10_0 := blk_frozen BK115.out 0; have hfz10_1 := blk_frozen BK115.out 1; have hfz10_2 := blk_frozen BK115.out 2; have hfz10_3 := blk_frozen BK115.out 3; have hfz10_4 := blk_frozen BK115.out 4; go_wp2; go_ret; exact ⟨by first | rfl | (simp [errW_none, errW_some] <;> rfl) | (simp [*, errW_none, errW_some] <;> rfl), S.B⟩
    ·rw [if_neg c9] at H; have c9b0 : (a0_0 == 2) = false := beq_eq_false_iff_ne.mpr c9; have c9b1 : (a0_0 != 2) = true := bne_iff_ne.mpr c9
     by_cases c11 : a0_0 = 5
     ·rw [if_pos c11] at H; have c11b0 : (a0_0 == 5) = true := beq_iff_eq.mpr c11; have c11b1 : (a0_0 != 5) = false := bne_eq_false_iff_eq.mpr c11; clear c11
      by_cases c12 : (l0_4.length : Int) = 1
      ·rw [if_pos c12] at H; have c12b0 : ((l0_4.length : Int) == 1) = true := beq_iff_eq.mpr c12; have c12b1 : ((l0_4.length : Int) != 1) = false := bne_eq_false_iff_eq.mpr c12; clear c12
       by_cases c13 : a0_2 < 0
       ·rw [if_pos c13] at H; have c13b0 : decide (a0_2 < 0) = true := decide_eq_true c13; clear c13; obtain rfl := Option.some.inj H; have hcz14_0 : wc.cell? ⟨gb115, 0, none⟩ = some (.int .i64 a0_0) := S.k BK115.out 0; have hcz14_1 : wc.cell? ⟨gb115, 1, none⟩ = some (.int .i64 a0_1) := S.k BK115.out 1; have hcz14_2 : wc.cell? ⟨gb115, 2, none⟩ = some (.int .i64 a0_2) := S.k BK115.out 2; have hcz14_3 : wc.cell? ⟨gb115, 3, none⟩ = some (.int .i64 a0_3) := S.k BK115.out 3; have hcz14_4 : wc.cell? ⟨gb115, 4, none⟩ = some (.slice A0_4 l0_4.length c0_4) := S.k BK115.out 4; have hfz14_0 := blk_frozen BK115.out 0; have hfz14_1 := blk_frozen BK115.out 1; have hfz14_2 := blk_frozen BK115.out 2; have hfz14_3 := blk_frozen BK115.out 3; have hfz14_4 := blk_frozen BK115.out 4; go_wp2; go_ret; exact ⟨by first | rfl | (simp [errW_none, errW_some] <;> rfl) | (simp [*, errW_none, errW_some] <;> rfl), S.B⟩
       ·rw [if_neg c13] at H; have c13b0 : decide (a0_2 < 0) = false := decide_eq_false c13; clear c13
        by_cases c15 : a0_2 > 1000
        ·rw [if_pos c15] at H; have c15b0 : decide (1000 < a0_2) = true := decide_eq_true c15; clear c15; obtain rfl := Option.some.inj H; have hcz16_0 : wc.cell? ⟨gb115, 0, none⟩ = some (.int .i64 a0_0) := S.k BK115.out 0; have hcz16_1 : wc.cell? ⟨gb115, 1, none⟩ = some (.int .i64 a0_1) := S.k BK115.out 1; have hcz16_2 : wc.cell? ⟨gb115, 2, none⟩ = some (.int .i64 a0_2) := S.k BK115.out 2; have hcz16_3 : wc.cell? ⟨gb115, 3, none⟩ = some (.int .i64 a0_3) := S.k BK115.out 3; have hcz16_4 : wc.cell? ⟨gb115, 4, none⟩ = some (.slice A0_4 l0_4.length c0_4) := S.k BK115.out 4; have hfz16_0 := blk_frozen BK115.out 0; have hfz16_1 := blk_frozen BK115.out 1; have hfz16_2 := blk_frozen BK115.out 2; have hfz16_3 := blk_frozen BK115.out 3; have hfz16_4 := blk_frozen BK115.out 4; go_wp2; go_ret; exact ⟨by first | rfl | (simp [errW_none, errW_some] <;> rfl) | (simp [*, errW_none, errW_some] <;> rfl), S.B⟩
        ·rw [if_neg c15] at H; have c15b0 : decide (1000 < a0_2) = false := decide_eq_false c15; clear c15
         by_cases c17 : a0_3 = (-1)
         ·rw [if_pos c17] at H; have c17b0 : (a0_3 == (-1)) = true := beq_iff_eq.mpr c17; have c17b1 : (a0_3 != (-1)) = false := bne_eq_false_iff_eq.mpr c17; clear c17; obtain rfl := Option.some.inj H; have hcz18_0 : wc.cell? ⟨gb115, 0, none⟩ = some (.int .i64 a0_0) := S.k BK115.out 0; have hcz18_1 : wc.cell? ⟨gb115, 1, none⟩ = some (.int .i64 a0_1) := S.k BK115.out 1; have hcz18_2 : wc.cell? ⟨gb115, 2, none⟩ = some (.int .i64 a0_2) := S.k BK115.out 2; have hcz18_3 : wc.cell? ⟨gb115, 3, none⟩ = some (.int .i64 a0_3) := S.k BK115.out 3; have hcz18_4 : wc.cell? ⟨gb115, 4, none⟩ = some (.slice A0_4 l0_4.length c0_4) := S.k BK115.out 4; have hfz18_0 := blk_frozen BK115.out 0; have hfz18_1 := blk_frozen BK115.out 1; have hfz18_2 := blk_frozen BK115.out 2; have hfz18_3 := blk_frozen BK115.out 3; have hfz18_4 := blk_frozen BK115.out 4; go_wp2; go_ret; exact ⟨by first | rfl | (simp [errW_none, errW_some] <;> rfl) | (simp [*, errW_none, errW_some] <;> rfl), S.B⟩
         ·rw [if_neg c17] at H; have c17b0 : (a0_3 == (-1)) = false := beq_eq_false_iff_ne.mpr c17; have c17b1 : (a0_3 != (-1)) = true := bne_iff_ne.mpr c17
          by_cases c19 : a0_3 < a0_2
          ·rw [if_pos c19] at H; have c19b0 : decide (a0_3 < a0_2) = true := decide_eq_true c19; clear c19; obtain rfl := Option.some.inj H; have hcz20_0 : wc.cell? ⟨gb115, 0, none⟩ = some (.int .i64 a0_0) := S.k BK115.out 0; have hcz20_1 : wc.cell? ⟨gb115, 1, none⟩ = some (.int .i64 a0_1) := S.k BK115.out 1; have hcz20_2 : wc.cell? ⟨gb115, 2, none⟩ = some (.int .i64 a0_2) := S.k BK115.out 2; have hcz20_3 : wc.cell? ⟨gb115, 3, none⟩ = some (.int .i64 a0_3) := S.k BK115.out 3; have hcz20_4 : wc.cell? ⟨gb115, 4, none⟩ = some (.slice A0_4 l0_4.length c0_4) := S.k BK115.out 4; have hfz20_0 := blk_frozen BK115.out 0; have hfz20_1 := blk_frozen BK115.out 1; have hfz20_2 := blk_frozen BK115.out 2; have hfz20_3 := blk_frozen BK115.out 3; have hfz20_4 := blk_frozen BK115.out 4; go_wp2; go_ret; exact ⟨by first | rfl | (simp [errW_none, errW_some] <;> rfl) | (simp [*, errW_none, errW_some] <;> rfl), S.B⟩
          ·rw [if_neg c19] at H; have c19b0 : decide (a0_3 < a0_2) = false := decide_eq_false c19; clear c19; obtain rfl := Option.some.inj H; have hcz21_0 : wc.cell? ⟨gb115, 0, none⟩ = some (.int .i64 a0_0) := S.k BK115.out 0; have hcz21_1 : wc.cell? ⟨gb115, 1, none⟩ = some (.int .i64 a0_1) := S.k BK115.out 1; have hcz21_2 : wc.cell? ⟨gb115, 2, none⟩ = some (.int .i64 a0_2) := S.k BK115.out 2; have hcz21_3 : wc.cell? ⟨gb115, 3, none⟩ = some (.int .i64 a0_3) := S.k BK115.out 3; have hcz21_4 : wc.cell? ⟨gb115, 4, none⟩ = some (.slice A0_4 l0_4.length c0_4) := S.k BK115.out 4; have hfz21_0 := blk_frozen BK115.out 0; have hfz21_1 := blk_frozen BK115.out 1; have hfz21_2 := blk_frozen BK115.out 2; have hfz21_3 := blk_frozen BK115.out 3; have hfz21_4 := blk_frozen BK115.out 4; go_wp2; go_ret; exact ⟨by first | rfl | (simp [errW_none, errW_some] <;> rfl) | (simp [*, errW_none, errW_some] <;> rfl), S.B⟩
      ·rw [if_neg c12] at H; have c12b0 : ((l0_4.length : Int) == 1) = false := beq_eq_false_iff_ne.mpr c12; have c12b1 : ((l0_4.length : Int) != 1) = true := bne_iff_ne.mpr c12; obtain rfl := Option.some.inj H; have hcz22_0 : wc.cell? ⟨gb115, 0, none⟩ = some (.int .i64 a0_0) := S.k BK115.out 0; have hcz22_1 : wc.cell? ⟨gb115, 1, none⟩ = some (.int .i64 a0_1) := S.k BK115.out 1; have hcz22_2 : wc.cell? ⟨gb115, 2, none⟩ = some (.int .i64 a0_2) := S.k BK115.out 2; have hcz22_3 : wc.cell? ⟨gb115, 3, none⟩ = some (.int .i64 a0_3) := S.k BK115.out 3; have hcz22_4 : wc.cell? ⟨gb115, 4, none⟩ = some (.slice A0_4 l0_4.length c0_4) := S.k BK115.out 4; have hfz22_0 := blk_frozen BK115.out 0; have hfz22_1 := blk_frozen BK115.out 1; have hfz22_2 := blk_frozen BK115.out 2; have hfz22_3 := blk_frozen BK115.out 3; have hfz22_4 := blk_frozen BK115.out 4; go_wp2; go_ret; exact ⟨by first | rfl | (simp [errW_none, errW_some] <;> rfl) | (simp [*, errW_none, errW_some] <;> rfl), S.B⟩
     ·rw [if_neg c11] at H; have c11b0 : (a0_0 == 5) = false := beq_eq_false_iff_ne.mpr c11; have c11b1 : (a0_0 != 5) = true := bne_iff_ne.mpr c11; obtain rfl := Option.some.inj H; go_wp2; go_ret; exact ⟨by first | rfl | (simp [errW_none, errW_some] <;> rfl) | (simp [*, errW_none, errW_some] <;> rfl), S.B⟩
mutual
def glush_set_list.l0 : Nat → List Int → List Int → Int → Int → Option (List Int)
 | 0, _, _, _, _ => none
 | k + 1, x3, x6, x7, x8 => if x8 < x7 then (if 0 ≤ x8 then (if x8 < (x6.length : Int) then (glush_set_list.l1 k x3 x8 (rd x6 x8) x6 x7 x8) else (none)) else (none)) else (some x3)
def glush_set_list.l1 : Nat → List Int → Int → Int → List Int → Int → Int → Option (List Int)
 | 0, _, _, _, _, _, _ => none
 | k + 1, x3, x4, x5, x6, x7, x8 => if x5 = 0 then (glush_set_list.l0 k x3 x6 x7 (wrap64 (x8 + 1))) else ((G.bits_TrailingZeros64.f x5).bind fun t131 => (if x3.length < 17592186044416 then (glush_set_list.l1 k (x3 ++ [wrap64 ((wrap64 (x4 * 64)) + t131)]) x4 (Go.bits .and .u64 x5 (IntKind.u64.wrap (x5 - 1))) x6 x7 x8) else (none)))
end
def glush_set_list.f (k : Nat) (l0 : List Int) : Option (List Int) := glush_set_list.l0 k ([] : List Int) l0 (l0.length : Int) 0
set_option maxHeartbeats 8000000 in
set_option maxRecDepth 100000 in
theorem glush_set_list.calls (k : Nat) (A0 : Option Addr) (c0 : Nat) (l0 : List Int) (r : List Int) (w : World) (hr0 : Kd.C (Kd.int .u64) w A0 l0.length l0) (hc0 : l0.length ≤ c0) (htab : G.HTab w) (h : glush_set_list.f k l0 = some r) :
  Calls Tryd.prog 20 #[.slice A0 l0.length c0] w fun e w' => ∃ v0_ : Value, e = .returned (v0_) ∧ Kd.R (Kd.int .i64) 3 w' w.heap.size (fun _ => True) v0_ r ∧ Below w.heap.size w w' := by
 have HR0 := Aside0.mk hr0; have HC0 := Aside0.mk hc0; clear hr0 hc0; have HT := Aside0.mk htab; clear htab; have HB := Aside0.mk (Below.refl w.heap.size w); have H : (glush_set_list.l0 k ([] : List Int) l0 (l0.length : Int) 0) = some r := h; clear h; have H' := Aside0.mk H; clear H
 go_enter Tryd.func20, Tryd.ntmps20
 go_wp2
 go_loopg [3, 8] k (fun kq v3 v8 w' => ∃ (x3_1 : List Int) (x8_1 : Int), v8 = .int .i64 x8_1 ∧ Aside0 (glush_set_list.l0 kq x3_1 l0 (l0.length : Int) x8_1 = some r) ∧ Aside0 (kq ≤ k) ∧ Aside0 (Kd.R (Kd.int .i64) 3 w' w.heap.size (fun _ => True) v3 x3_1) ∧ Aside0 (Below w.heap.size w w'))
 case atStart => exact ⟨(([] : List Int)), (0), (by first | rfl | (simp; done) | (simp [*]; done)), H', ⟨Nat.le_refl _⟩, ⟨by first | exact Kd.R_nil _ _ _ _ _ | exact Kd.N_nil _ _ _ _ _ | exact Kd.V_nil _ _ _ _ _ | exact Kd.Q_nil _ _ _ _ _ | exact Kd.S_nil _ _ _ _ _⟩, ⟨S.B⟩⟩
 case round =>
  clear H'; obtain ⟨x3_1, x8_1, rfl, HA, HK1, HO_3, HB⟩ := hrel
  cases gk with
  | zero => exact absurd HA.out (by simp [glush_set_list.l0])
  | succ k1 =>
   have H := HA.out; clear HA; simp only [glush_set_list.l0] at H
   by_cases c2 : x8_1 < (l0.length : Int)
   ·rw [if_pos c2] at H; have c2b0 : decide (x8_1 < (l0.length : Int)) = true := decide_eq_true c2; clear c2
    by_cases c3 : 0 ≤ x8_1
    ·rw [if_pos c3] at H; have c3b0 : decide (0 ≤ x8_1) = true := decide_eq_true c3; clear c3
     by_cases c4 : x8_1 < (l0.length : Int)
     ·rw [if_pos c4] at H; have c4b0 : decide (x8_1 < (l0.length : Int)) = true := decide_eq_true c4; clear c4; have H' := Aside0.mk H; clear H; have p130 : 0 ≤ (x8_1 : Int) := of_decide_eq_true (by first | (with_reducible assumption) | assumption); have q130 : x8_1 < (l0.length : Int) := of_decide_eq_true (by first | (with_reducible assumption) | assumption); obtain ⟨ad130, e130, hx130_0⟩ := Kd.at_int HR0.out x8_1 p130 q130; cases e130; replace hx130_0 := (HB.out.cell (World.block_lt_of_cell? w _ hx130_0)).trans hx130_0; replace p130 := eq_true p130; replace q130 := eq_true q130; go_wp2
      go_loopg [3, 5] k1 (fun kq v3 v5 w' => ∃ (x3_2 : List Int) (x5_2 : Int), v5 = .int .u64 x5_2 ∧ Aside0 (glush_set_list.l1 kq x3_2 x8_1 x5_2 l0 (l0.length : Int) x8_1 = some r) ∧ Aside0 (kq ≤ k1) ∧ Aside0 (Kd.R (Kd.int .i64) 3 w' w.heap.size (fun _ => True) v3 x3_2) ∧ Aside0 (Below w.heap.size w w'))
      case atStart => exact ⟨(x3_1), (rd l0 x8_1), (by first | rfl | (simp; done) | (simp [*]; done)), H', ⟨Nat.le_refl _⟩, ⟨S.r HO_3.out⟩, ⟨S.B⟩⟩
      case round =>
       clear H'; (try clear p1); (try clear q1); (try clear hx1); (try clear c2); (try clear c2b0); (try clear p2); (try clear c3); (try clear c3b0); (try clear c4); (try clear c4b0); (try clear hx130_0); (try clear p130); (try clear q130); obtain ⟨x3_2, x5_2, rfl, HA, HK2, HO_3, HB⟩ := hrel
       cases gk with
       | zero => exact absurd HA.out (by simp [glush_set_list.l1])
       | succ k2 =>
        have H := HA.out; clear HA; simp only [glush_set_list.l1] at H
        by_cases c5 : x5_2 = 0
        ·rw [if_pos c5] at H; have c5b0 : (x5_2 == 0) = true := beq_iff_eq.mpr c5; have c5b1 : (x5_2 != 0) = false := bne_eq_false_iff_eq.mpr c5; clear c5; have H' := Aside0.mk H; clear H; go_wp2
         go_roundg k2
         case measure => have := HK1.out; have := HK2.out; omega
         case rel => exact ⟨(x3_2), (wrap64 (x8_1 + 1)), (by first | rfl | (simp; done) | (simp [*]; done)), H', ⟨by have := HK1.out; have := HK2.out; omega⟩, ⟨S.r HO_3.out⟩, ⟨S.B⟩⟩
        ·rw [if_neg c5] at H; have c5b0 : (x5_2 == 0) = false := beq_eq_false_iff_ne.mpr c5; have c5b1 : (x5_2 != 0) = true := bne_iff_ne.mpr c5; replace H := Option.bind_eq_some_iff.mp H; obtain ⟨t131, A60, H⟩ := H; replace H : (if x3_2.length < 17592186044416 then (glush_set_list.l1 k2 (x3_2 ++ [wrap64 ((wrap64 (x8_1 * 64)) + t131)]) x8_1 (Go.bits .and .u64 x5_2 (IntKind.u64.wrap (x5_2 - 1))) l0 (l0.length : Int) x8_1) else (none)) = some r := H; have A6 := Aside0.mk A60; clear A60
         by_cases c7 : x3_2.length < 17592186044416
         ·rw [if_pos c7] at H; have LMc7 := Aside0.mk c7; clear c7; obtain ⟨y132, hy132⟩ : ∃ y_ : List Int, y_ = (x3_2 ++ [wrap64 ((wrap64 (x8_1 * 64)) + t131)]) := ⟨_, rfl⟩; (replace H : (glush_set_list.l1 k2 y132 x8_1 (Go.bits .and .u64 x5_2 (IntKind.u64.wrap (x5_2 - 1))) l0 (l0.length : Int) x8_1) = some r := by first | (rw [hy132]; with_reducible exact H) | (have H2_ := (Option.bind_some _ _).symm.trans H; rw [hy132]; with_reducible exact H2_) | (have H2_ := (Option.bind_some _ _).symm.trans H; with_reducible exact H2_) | with_reducible exact H | (rw [hy132]; exact H) | exact H); have Ny132 := Aside0.mk hy132; clear hy132; have H' := Aside0.mk H; clear H
          go_wp2_with (first | ((with_reducible refine gate_callee (f := 34) rfl ?_); refine goesL_ (some 23) rfl rfl Tryd.func34 (by kernel_rfl) rfl #[.int .u64 x5_2] rfl (by (try simp only [List.map_toArray, List.map_cons, List.map_nil]); first | done | rfl | (simp only [List.length_drop, List.length_take]; rfl)) ?_; (with_reducible refine (G.bits_TrailingZeros64.calls x5_2 t131 _ (HT.out.below HB.out) A6.out).mono ?_); rintro e w' ⟨rfl, ⟨nd, rfl⟩⟩; refine ⟨_, rfl, ?_⟩) | ((with_reducible refine gate_builtin (b := .append) (xs := #[.tmp 19, .tmp 25]) rfl ?_); at_builtin; refine Kd.R_append (Kd.int .i64) (w0 := w) w.heap.size rfl (.tmp 19) (.tmp 25) 25 3 (.int .i64 0) 8 rfl Tryd.underlying25 info3 rfl (by decide) (by omega) u3 x3_2 (wrap64 ((wrap64 (x8_1 * 64)) + t131)) [.int .i64 (wrap64 ((wrap64 (x8_1 * 64)) + t131))] (fun _ => True) (fun _ => False) rfl rfl ?aP (fun _ hk => hk.elim) ?aF ?aO ?aB ?aS ?aL ?_; (case aP => exact rfl); (case aB => exact S.B); (case aF => exact (fun _ _ => trivial)); (case aO => exact (S.r HO_3.out)); (case aS => exact (below_size S.B)); (case aL => have := LMc7.out; omega); intro v133 w8 ho hb hg hat; rw [← Ny132.out] at ho; have n0_ := Aside0.mk (hb); have n1_ := Aside0.mk (ho); clear HB; clear HO_3; have HB := n0_; have HO134 := n1_; clear n0_ n1_; clear ho hb hg hat))
          go_roundg k2
          case measure => have := HK1.out; have := HK2.out; omega
          case rel => exact ⟨(y132), (Go.bits .and .u64 x5_2 (IntKind.u64.wrap (x5_2 - 1))), (by first | rfl | (simp; done) | (simp [*]; done)), H', ⟨by have := HK1.out; have := HK2.out; omega⟩, ⟨S.r HO134.out⟩, ⟨S.B⟩⟩
         ·rw [if_neg c7] at H; exact absurd H (by simp)
     ·rw [if_neg c4] at H; exact absurd H (by simp)
    ·rw [if_neg c3] at H; exact absurd H (by simp)
   ·rw [if_neg c2] at H; have c2b0 : decide (x8_1 < (l0.length : Int)) = false := decide_eq_false c2; clear c2; obtain rfl := Option.some.inj H; go_wp2; go_ret; exact ⟨_, by first | rfl | (simp [errW_none, errW_some] <;> rfl) | (simp [*, errW_none, errW_some] <;> rfl), S.r HO_3.out, S.B⟩
end Go.Proofs.YthocjdlcopmhiaaDoor.Pr
