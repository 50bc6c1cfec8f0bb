-- printed by wip/gprint.py (ours) out of the translation, by the kit's print program with given contracts
import Derived.Test.YtnafjabpkbahdaaPrx0
namespace Go.Proofs.Ytnafjabpkbahdaa.Pr
open Go.RowKit Go.Proofs.YtnafjabpkbahdaaW.PrintWords Go.Proofs.YtnafjabpkbahdaaW.PrintLast Go.Proofs.YtnafjabpkbahdaaW.PrintMore
attribute [local go_sem] max2_int min2_int max_two min_two max_three min_three max_four min_four   -- for this text's walks alone
set_option linter.unusedVariables false
set_option linter.unusedSimpArgs false

/-! ### dec_Dec_Right: function 18 -/
mutual
def dec_Dec_Right.j0 : Nat → Int → Bool → Bool → List Int → Int → Option (Bool)
 | 0, _, _, _, _, _ => none
 | k + 1, x3, x25, x368000, x368001, x368002 => if x25 = true then (some false) else (dec_Dec_Right.l0 k x3 x368001 (x368001.length : Int) 0 x368000 x368001 x368002)
def dec_Dec_Right.l0 : Nat → Int → List Int → Int → Int → Bool → List Int → Int → Option (Bool)
 | 0, _, _, _, _, _, _, _ => none
 | k + 1, x3, x27, x28, x29, x368000, x368001, x368002 => if x29 < x28 then (if 0 ≤ x29 then (if x29 < (x27.length : Int) then (if (rd x27 x29) > 9 then (some false) else (dec_Dec_Right.l0 k x3 x27 x28 (wrap64 (x29 + 1)) x368000 x368001 x368002)) else (none)) else (none)) else (if (wrap64 (x3 - x368002)) > 1 then (if 0 < (x368001.length : Int) then (dec_Dec_Right.j2 k x3 ((rd x368001 0) == 0) x368000 x368001 x368002) else (none)) else (dec_Dec_Right.j2 k x3 false x368000 x368001 x368002))
def dec_Dec_Right.j2 : Nat → Int → Bool → Bool → List Int → Int → Option (Bool)
 | 0, _, _, _, _, _ => none
 | k + 1, x3, x36, x368000, x368001, x368002 => if x36 = true then (some false) else (if x368002 > 0 then (if 0 ≤ (wrap64 (x3 - 1)) then (if (wrap64 (x3 - 1)) < (x368001.length : Int) then (dec_Dec_Right.j3 k ((rd x368001 (wrap64 (x3 - 1))) == 0) x368000 x368001 x368002) else (none)) else (none)) else (dec_Dec_Right.j3 k false x368000 x368001 x368002))
def dec_Dec_Right.j3 : Nat → Bool → Bool → List Int → Int → Option (Bool)
 | 0, _, _, _, _ => none
 | k + 1, x36, x368000, x368001, x368002 => if x36 = true then (some false) else (if x368000 = true then ((G.dec_zero.f x368001).bind fun t371 => (if t371 = true then (some false) else (some true))) else (some true))
end
def dec_Dec_Right.f (k : Nat) (a0_0 : Bool) (l0_1 : List Int) (a0_2 : Int) : Option (Bool) := if (l0_1.length : Int) < 1 then (dec_Dec_Right.j0 k (l0_1.length : Int) true a0_0 l0_1 a0_2) else (if (l0_1.length : Int) > 4096 then (dec_Dec_Right.j0 k (l0_1.length : Int) true a0_0 l0_1 a0_2) else (if a0_2 < 0 then (dec_Dec_Right.j0 k (l0_1.length : Int) true a0_0 l0_1 a0_2) else (dec_Dec_Right.j0 k (l0_1.length : Int) (decide (a0_2 ≥ (l0_1.length : Int))) a0_0 l0_1 a0_2)))
theorem dec_Dec_Right.mono_l : ∀ k, (∀ y0 y1 y2 y3 y4, LeO (dec_Dec_Right.j0 k y0 y1 y2 y3 y4) (dec_Dec_Right.j0 (k + 1) y0 y1 y2 y3 y4)) ∧ (∀ y0 y1 y2 y3 y4 y5 y6, LeO (dec_Dec_Right.l0 k y0 y1 y2 y3 y4 y5 y6) (dec_Dec_Right.l0 (k + 1) y0 y1 y2 y3 y4 y5 y6)) ∧ (∀ y0 y1 y2 y3 y4, LeO (dec_Dec_Right.j2 k y0 y1 y2 y3 y4) (dec_Dec_Right.j2 (k + 1) y0 y1 y2 y3 y4)) ∧ (∀ y0 y1 y2 y3, LeO (dec_Dec_Right.j3 k y0 y1 y2 y3) (dec_Dec_Right.j3 (k + 1) y0 y1 y2 y3))
 | 0 => ⟨fun _ _ _ _ _ r h => by simp [dec_Dec_Right.j0] at h, fun _ _ _ _ _ _ _ r h => by simp [dec_Dec_Right.l0] at h, fun _ _ _ _ _ r h => by simp [dec_Dec_Right.j2] at h, fun _ _ _ _ r h => by simp [dec_Dec_Right.j3] at h⟩
 | k + 1 => by
  obtain ⟨ih0, ih1, ih2, ih3⟩ := dec_Dec_Right.mono_l k
  refine ⟨?_, ?_, ?_, ?_⟩
  ·intro y0 y1 y2 y3 y4
   unfold dec_Dec_Right.j0
   repeat' first
   | (with_reducible exact ih0 _ _ _ _ _)
   | (with_reducible exact ih1 _ _ _ _ _ _ _)
   | (with_reducible exact ih2 _ _ _ _ _)
   | (with_reducible exact ih3 _ _ _ _)
   | (with_reducible exact LeO.refl _)
   | (with_reducible exact LeO.none _)
   | (with_reducible refine LeO.ite ?_ ?_)
   | (with_reducible refine LeO.bind ?_ (fun _ => ?_))
   | exact ih0 _ _ _ _ _
   | exact ih1 _ _ _ _ _ _ _
   | exact ih2 _ _ _ _ _
   | exact ih3 _ _ _ _
   | exact LeO.none _
   | refine LeO.ite ?_ ?_
   | refine LeO.bind ?_ (fun _ => ?_)
  ·intro y0 y1 y2 y3 y4 y5 y6
   unfold dec_Dec_Right.l0
   repeat' first
   | (with_reducible exact ih0 _ _ _ _ _)
   | (with_reducible exact ih1 _ _ _ _ _ _ _)
   | (with_reducible exact ih2 _ _ _ _ _)
   | (with_reducible exact ih3 _ _ _ _)
   | (with_reducible exact LeO.refl _)
   | (with_reducible exact LeO.none _)
   | (with_reducible refine LeO.ite ?_ ?_)
   | (with_reducible refine LeO.bind ?_ (fun _ => ?_))
   | exact ih0 _ _ _ _ _
   | exact ih1 _ _ _ _ _ _ _
   | exact ih2 _ _ _ _ _
   | exact ih3 _ _ _ _
   | exact LeO.none _
   | refine LeO.ite ?_ ?_
   | refine LeO.bind ?_ (fun _ => ?_)
  ·intro y0 y1 y2 y3 y4
   unfold dec_Dec_Right.j2
   repeat' first
   | (with_reducible exact ih0 _ _ _ _ _)
   | (with_reducible exact ih1 _ _ _ _ _ _ _)
   | (with_reducible exact ih2 _ _ _ _ _)
   | (with_reducible exact ih3 _ _ _ _)
   | (with_reducible exact LeO.refl _)
   | (with_reducible exact LeO.none _)
   | (with_reducible refine LeO.ite ?_ ?_)
   | (with_reducible refine LeO.bind ?_ (fun _ => ?_))
   | exact ih0 _ _ _ _ _
   | exact ih1 _ _ _ _ _ _ _
   | exact ih2 _ _ _ _ _
   | exact ih3 _ _ _ _
   | exact LeO.none _
   | refine LeO.ite ?_ ?_
   | refine LeO.bind ?_ (fun _ => ?_)
  ·intro y0 y1 y2 y3
   unfold dec_Dec_Right.j3
   repeat' first
   | (with_reducible exact ih0 _ _ _ _ _)
   | (with_reducible exact ih1 _ _ _ _ _ _ _)
   | (with_reducible exact ih2 _ _ _ _ _)
   | (with_reducible exact ih3 _ _ _ _)
   | (with_reducible exact LeO.refl _)
   | (with_reducible exact LeO.none _)
   | (with_reducible refine LeO.ite ?_ ?_)
   | (with_reducible refine LeO.bind ?_ (fun _ => ?_))
   | exact ih0 _ _ _ _ _
   | exact ih1 _ _ _ _ _ _ _
   | exact ih2 _ _ _ _ _
   | exact ih3 _ _ _ _
   | exact LeO.none _
   | refine LeO.ite ?_ ?_
   | refine LeO.bind ?_ (fun _ => ?_)
theorem dec_Dec_Right.mono : ∀ a0 a1 a2 k, LeO (dec_Dec_Right.f k a0 a1 a2) (dec_Dec_Right.f (k + 1) a0 a1 a2) := by
 intro a0 a1 a2 k
 obtain ⟨ih0, ih1, ih2, ih3⟩ := dec_Dec_Right.mono_l k
 unfold dec_Dec_Right.f
 repeat' first
   | (with_reducible exact ih0 _ _ _ _ _)
   | (with_reducible exact ih1 _ _ _ _ _ _ _)
   | (with_reducible exact ih2 _ _ _ _ _)
   | (with_reducible exact ih3 _ _ _ _)
   | (with_reducible exact LeO.refl _)
   | (with_reducible exact LeO.none _)
   | (with_reducible refine LeO.ite ?_ ?_)
   | (with_reducible refine LeO.bind ?_ (fun _ => ?_))
   | exact ih0 _ _ _ _ _
   | exact ih1 _ _ _ _ _ _ _
   | exact ih2 _ _ _ _ _
   | exact ih3 _ _ _ _
   | exact LeO.none _
   | refine LeO.ite ?_ ?_
   | refine LeO.bind ?_ (fun _ => ?_)
set_option maxHeartbeats 8000000 in
set_option maxRecDepth 100000 in
theorem dec_Dec_Right.calls (k : Nat) (a0_0 : Bool) (A0_1 : Option Addr) (c0_1 : Nat) (l0_1 : List Int) (a0_2 : Int) (r : Bool) (w : World) (hr0_1 : Kd.C (Kd.int .u8) w A0_1 l0_1.length l0_1) (hc0_1 : l0_1.length ≤ c0_1) (h : dec_Dec_Right.f k a0_0 l0_1 a0_2 = some r) :
  Calls Try.prog 18 #[.agg #[.bool a0_0, .slice A0_1 l0_1.length c0_1, .int .i64 a0_2]] w fun e w' => e = .returned (.bool r) ∧ Below w.heap.size w w' := by
 have hu25 := Try.underlying25
 have HR0_1 := Aside0.mk hr0_1
 have HC0_1 := Aside0.mk hc0_1
 clear hr0_1 hc0_1
 have HB := Aside0.mk (Below.refl w.heap.size w)
 have H : (if (l0_1.length : Int) < 1 then (dec_Dec_Right.j0 k (l0_1.length : Int) true a0_0 l0_1 a0_2) else (if (l0_1.length : Int) > 4096 then (dec_Dec_Right.j0 k (l0_1.length : Int) true a0_0 l0_1 a0_2) else (if a0_2 < 0 then (dec_Dec_Right.j0 k (l0_1.length : Int) true a0_0 l0_1 a0_2) else (dec_Dec_Right.j0 k (l0_1.length : Int) (decide (a0_2 ≥ (l0_1.length : Int))) a0_0 l0_1 a0_2)))) = some r := h
 clear h
 have HC2 := Aside0.mk H
 clear H
 go_enter Try.func18, Try.ntmps18
 go_upto_region 2 with (first | ((with_reducible refine gate_dst (N := 1) rfl ?_); refine box_event ?hg (N := 1) ?hd (cs := #[.bool a0_0, .slice A0_1 l0_1.length c0_1, .int .i64 a0_2]) (t := 25) ?hr ?_; (case hd => rfl); (case hg => rfl); (case hr => first | (go_simp; done) | (go_simp; rfl)); intro gb367 hg w3 hbox hb; have n0_ := Aside0.mk (below_step (by repeat (first | (with_reducible first | exact HB.out | apply below_alloc | apply pw_below_drewN | apply below_drew1) | exact HB.out)) hb); have n1_ := Aside0.mk (hbox); have n2_ := Aside0.mk ((by rw [hg]; exact (below_size (by repeat (first | (with_reducible first | exact HB.out | apply below_alloc | apply pw_below_drewN | apply below_drew1) | exact HB.out))) : w.heap.size ≤ gb367)); have n3_ := Aside0.mk ((by rw [hg]; exact (below_size (by repeat (first | (with_reducible first | exact HB.out | apply below_alloc | apply pw_below_drewN | apply below_drew1) | exact HB.out))) : w.heap.size ≤ gb367)); clear HB; have HB := n0_; have BK367 := n1_; have GW367 := n2_; have GE367 := n3_; clear n0_ n1_ n2_ n3_; clear hb hbox hg; have hcz4_0 : w3.cell? ⟨gb367, 0, none⟩ = some (.bool a0_0) := (blk_cell BK367.out 0).trans rfl; have hcz4_1 : w3.cell? ⟨gb367, 1, none⟩ = some (.slice A0_1 l0_1.length c0_1) := (blk_cell BK367.out 1).trans rfl; have hcz4_2 : w3.cell? ⟨gb367, 2, none⟩ = some (.int .i64 a0_2) := (blk_cell BK367.out 2).trans rfl; have hfz4_0 := blk_frozen BK367.out 0; have hfz4_1 := blk_frozen BK367.out 1; have hfz4_2 := blk_frozen BK367.out 2))
 (try simp only [Act.put, List.setIfInBounds_toArray, List.set_cons_zero, List.set_cons_succ])
 go_cut [25] (fun v25 wc => ∃ (kq : Nat) (x25_1 : Bool), v25 = .bool x25_1 ∧ Aside0 (dec_Dec_Right.j0 kq (l0_1.length : Int) x25_1 a0_0 l0_1 a0_2 = some r) ∧ Aside0 (kq ≤ k) ∧ Aside0 (wc.heap[gb367]? = some (.cells #[.bool a0_0, (.slice A0_1 l0_1.length c0_1), .int .i64 a0_2] 25 (0, 0))) ∧ Aside0 (Below w.heap.size w wc))
 case first =>
  have H := HC2.out
  clear HC2
  by_cases c5 : (l0_1.length : Int) < 1
  ·rw [if_pos c5] at H
   have c5b0 : decide ((l0_1.length : Int) < 1) = true := decide_eq_true c5
   have c5b1 : decide (l0_1.length < 1) = true := decide_eq_true (by omega)
   clear c5
   (first | rw [c5b0] | (simp only [i64_w, i32_w]; rw [c5b0]) | skip)
   have H' := Aside0.mk H
   clear H
   go_wp2
   go_meet
   case rel => exact ⟨_, (true), (by first | rfl | (simp; done) | (simp [*]; done)), H', ⟨by first | omega | exact Nat.le_refl _⟩, ⟨S.b BK367.out⟩, ⟨by repeat (first | (with_reducible first | exact HB.out | apply below_alloc | apply pw_below_drewN | apply below_drew1 | refine below_set ?_ GE367.out) | exact HB.out)⟩⟩
  ·rw [if_neg c5] at H
   have c5b0 : decide ((l0_1.length : Int) < 1) = false := decide_eq_false c5
   have c5b1 : decide (l0_1.length < 1) = false := decide_eq_false (by omega)
   clear c5
   (first | rw [c5b0] | (simp only [i64_w, i32_w]; rw [c5b0]) | skip)
   by_cases c6 : (l0_1.length : Int) > 4096
   ·rw [if_pos c6] at H
    have c6b0 : decide (4096 < (l0_1.length : Int)) = true := decide_eq_true c6
    have c6b1 : decide (4096 < l0_1.length) = true := decide_eq_true (by omega)
    clear c6
    have H' := Aside0.mk H
    clear H
    go_wp2
    go_meet
    case rel => exact ⟨_, (true), (by first | rfl | (simp; done) | (simp [*]; done)), H', ⟨by first | omega | exact Nat.le_refl _⟩, ⟨S.b BK367.out⟩, ⟨by repeat (first | (with_reducible first | exact HB.out | apply below_alloc | apply pw_below_drewN | apply below_drew1 | refine below_set ?_ GE367.out) | exact HB.out)⟩⟩
   ·rw [if_neg c6] at H
    have c6b0 : decide (4096 < (l0_1.length : Int)) = false := decide_eq_false c6
    have c6b1 : decide (4096 < l0_1.length) = false := decide_eq_false (by omega)
    clear c6
    by_cases c7 : a0_2 < 0
    ·rw [if_pos c7] at H
     have c7b0 : decide (a0_2 < 0) = true := decide_eq_true c7
     clear c7
     have H' := Aside0.mk H
     clear H
     have hcz8_0 : w3.cell? ⟨gb367, 0, none⟩ = some (.bool a0_0) := (blk_cell BK367.out 0).trans rfl
     have hcz8_1 : w3.cell? ⟨gb367, 1, none⟩ = some (.slice A0_1 l0_1.length c0_1) := (blk_cell BK367.out 1).trans rfl
     have hcz8_2 : w3.cell? ⟨gb367, 2, none⟩ = some (.int .i64 a0_2) := (blk_cell BK367.out 2).trans rfl
     have hfz8_0 := blk_frozen BK367.out 0
     have hfz8_1 := blk_frozen BK367.out 1
     have hfz8_2 := blk_frozen BK367.out 2
     go_wp2
     go_meet
     case rel => exact ⟨_, (true), (by first | rfl | (simp; done) | (simp [*]; done)), H', ⟨by first | omega | exact Nat.le_refl _⟩, ⟨S.b BK367.out⟩, ⟨by repeat (first | (with_reducible first | exact HB.out | apply below_alloc | apply pw_below_drewN | apply below_drew1 | refine below_set ?_ GE367.out) | exact HB.out)⟩⟩
    ·rw [if_neg c7] at H
     have c7b0 : decide (a0_2 < 0) = false := decide_eq_false c7
     clear c7
     have H' := Aside0.mk H
     clear H
     have hcz9_0 : w3.cell? ⟨gb367, 0, none⟩ = some (.bool a0_0) := (blk_cell BK367.out 0).trans rfl
     have hcz9_1 : w3.cell? ⟨gb367, 1, none⟩ = some (.slice A0_1 l0_1.length c0_1) := (blk_cell BK367.out 1).trans rfl
     have hcz9_2 : w3.cell? ⟨gb367, 2, none⟩ = some (.int .i64 a0_2) := (blk_cell BK367.out 2).trans rfl
     have hfz9_0 := blk_frozen BK367.out 0
     have hfz9_1 := blk_frozen BK367.out 1
     have hfz9_2 := blk_frozen BK367.out 2
     go_wp2
     go_meet
     case rel => exact ⟨_, (decide (a0_2 ≥ (l0_1.length : Int))), (by first | rfl | (simp; done) | (simp [*]; done)), H', ⟨by first | omega | exact Nat.le_refl _⟩, ⟨S.b BK367.out⟩, ⟨by repeat (first | (with_reducible first | exact HB.out | apply below_alloc | apply pw_below_drewN | apply below_drew1 | refine below_set ?_ GE367.out) | exact HB.out)⟩⟩
 case rest =>
  clear HC2
  try clear c1
  try clear p2
  try clear c5
  try clear c5b0
  try clear c5b1
  try clear c6
  try clear c6b0
  try clear c6b1
  try clear c7
  try clear c7b0
  try clear hcz4_0
  try clear hcz4_1
  try clear hcz4_2
  try clear hcz8_0
  try clear hcz8_1
  try clear hcz8_2
  try clear hcz9_0
  try clear hcz9_1
  try clear hcz9_2
  try clear hfz4_0
  try clear hfz4_1
  try clear hfz4_2
  try clear hfz8_0
  try clear hfz8_1
  try clear hfz8_2
  try clear hfz9_0
  try clear hfz9_1
  try clear hfz9_2
  obtain ⟨kq, x25_1, rfl, HA, HJ1, BK367, HB⟩ := hcut
  cases kq with
  | zero => exact absurd HA.out (by simp [dec_Dec_Right.j0])
  | succ kj1 =>
   have H := HA.out
   clear HA
   simp only [dec_Dec_Right.j0] at H
   by_cases c10 : x25_1 = true
   ·subst c10
    have H1 : (some false) = some r := by rw [if_pos rfl] at H; exact H
    clear H
    have H := H1
    clear H1
    obtain rfl := Option.some.inj H
    go_wp2
    go_ret
    exact ⟨by first | rfl | (simp [errW_none, errW_some] <;> rfl) | (simp [*, errW_none, errW_some] <;> rfl), by repeat (first | (with_reducible first | exact HB.out | apply below_alloc | apply pw_below_drewN | apply below_drew1 | refine below_set ?_ GE367.out) | exact HB.out)⟩
   ·replace c10 := Bool.eq_false_iff.mpr c10
    subst c10
    have H1 : (dec_Dec_Right.l0 kj1 (l0_1.length : Int) l0_1 (l0_1.length : Int) 0 a0_0 l0_1 a0_2) = some r := by rw [if_neg (show ¬ (false = true) by decide)] at H; exact H
    clear H
    have H := H1
    clear H1
    have H' := Aside0.mk H
    clear H
    have hcz11_0 : wc.cell? ⟨gb367, 0, none⟩ = some (.bool a0_0) := (blk_cell BK367.out 0).trans rfl
    have hcz11_1 : wc.cell? ⟨gb367, 1, none⟩ = some (.slice A0_1 l0_1.length c0_1) := (blk_cell BK367.out 1).trans rfl
    have hcz11_2 : wc.cell? ⟨gb367, 2, none⟩ = some (.int .i64 a0_2) := (blk_cell BK367.out 2).trans rfl
    have hfz11_0 := blk_frozen BK367.out 0
    have hfz11_1 := blk_frozen BK367.out 1
    have hfz11_2 := blk_frozen BK367.out 2
    go_wp2
    go_loopg [29] kj1 (fun kq v29 w' => ∃ (x29_2 : Int), v29 = .int .i64 x29_2 ∧ Aside0 (dec_Dec_Right.l0 kq (l0_1.length : Int) l0_1 (l0_1.length : Int) x29_2 a0_0 l0_1 a0_2 = some r) ∧ Aside0 (kq ≤ kj1) ∧ Aside0 (w'.heap[gb367]? = some (.cells #[.bool a0_0, (.slice A0_1 l0_1.length c0_1), .int .i64 a0_2] 25 (0, 0))) ∧ Aside0 (Below w.heap.size w w'))
    case atStart => exact ⟨(0), (by first | rfl | (simp; done) | (simp [*]; done)), H', ⟨Nat.le_refl _⟩, ⟨S.b BK367.out⟩, ⟨by repeat (first | (with_reducible first | exact HB.out | apply below_alloc | apply pw_below_drewN | apply below_drew1 | refine below_set ?_ GE367.out) | exact HB.out)⟩⟩
    case round =>
     clear H'
     try clear c1
     try clear p2
     try clear c5
     try clear c5b0
     try clear c5b1
     try clear c6
     try clear c6b0
     try clear c6b1
     try clear c7
     try clear c7b0
     try clear c10
     try clear hcz11_0
     try clear hcz11_1
     try clear hcz11_2
     try clear hcz4_0
     try clear hcz4_1
     try clear hcz4_2
     try clear hcz8_0
     try clear hcz8_1
     try clear hcz8_2
     try clear hcz9_0
     try clear hcz9_1
     try clear hcz9_2
     try clear hfz11_0
     try clear hfz11_1
     try clear hfz11_2
     try clear hfz4_0
     try clear hfz4_1
     try clear hfz4_2
     try clear hfz8_0
     try clear hfz8_1
     try clear hfz8_2
     try clear hfz9_0
     try clear hfz9_1
     try clear hfz9_2
     try clear p2
     obtain ⟨x29_2, rfl, HA, HK2, BK367, HB⟩ := hrel
     cases gk with
     | zero => exact absurd HA.out (by simp [dec_Dec_Right.l0])
     | succ k2 =>
      have H := HA.out
      clear HA
      simp only [dec_Dec_Right.l0] at H
      by_cases c12 : x29_2 < (l0_1.length : Int)
      ·rw [if_pos c12] at H
       have c12b0 : decide (x29_2 < (l0_1.length : Int)) = true := decide_eq_true c12
       clear c12
       by_cases c13 : 0 ≤ x29_2
       ·rw [if_pos c13] at H
        have c13b0 : decide (0 ≤ x29_2) = true := decide_eq_true c13
        clear c13
        by_cases c14 : x29_2 < (l0_1.length : Int)
        ·rw [if_pos c14] at H
         have c14b0 : decide (x29_2 < (l0_1.length : Int)) = true := decide_eq_true c14
         clear c14
         by_cases c15 : (rd l0_1 x29_2) > 9
         ·rw [if_pos c15] at H
          have c15b0 : decide (9 < (rd l0_1 x29_2)) = true := decide_eq_true c15
          clear c15
          obtain rfl := Option.some.inj H
          have p368 : 0 ≤ (x29_2 : Int) := of_decide_eq_true (by first | (with_reducible assumption) | assumption)
          have q368 : x29_2 < (l0_1.length : Int) := of_decide_eq_true (by first | (with_reducible assumption) | assumption)
          obtain ⟨ad368, e368, hx368_0⟩ := Kd.at_int HR0_1.out x29_2 p368 q368
          cases e368
          replace hx368_0 := (HB.out.cell (World.block_lt_of_cell? w _ hx368_0)).trans hx368_0
          replace p368 := eq_true p368
          replace q368 := eq_true q368
          go_wp2
          go_ret
          exact ⟨by first | rfl | (simp [errW_none, errW_some] <;> rfl) | (simp [*, errW_none, errW_some] <;> rfl), by repeat (first | (with_reducible first | exact HB.out | apply below_alloc | apply pw_below_drewN | apply below_drew1 | refine below_set ?_ GE367.out) | exact HB.out)⟩
         ·rw [if_neg c15] at H
          have c15b0 : decide (9 < (rd l0_1 x29_2)) = false := decide_eq_false c15
          clear c15
          have H' := Aside0.mk H
          clear H
          have p368 : 0 ≤ (x29_2 : Int) := of_decide_eq_true (by first | (with_reducible assumption) | assumption)
          have q368 : x29_2 < (l0_1.length : Int) := of_decide_eq_true (by first | (with_reducible assumption) | assumption)
          obtain ⟨ad368, e368, hx368_0⟩ := Kd.at_int HR0_1.out x29_2 p368 q368
          cases e368
          replace hx368_0 := (HB.out.cell (World.block_lt_of_cell? w _ hx368_0)).trans hx368_0
          replace p368 := eq_true p368
          replace q368 := eq_true q368
          go_wp2
          go_roundg k2
          case measure => have := HJ1.out; have := HK2.out; omega
          case rel => exact ⟨(wrap64 (x29_2 + 1)), (by first | rfl | (simp; done) | (simp [*]; done)), H', ⟨by have := HJ1.out; have := HK2.out; omega⟩, ⟨S.b BK367.out⟩, ⟨by repeat (first | (with_reducible first | exact HB.out | apply below_alloc | apply pw_below_drewN | apply below_drew1 | refine below_set ?_ GE367.out) | exact HB.out)⟩⟩
        ·rw [if_neg c14] at H
         exact absurd H (by simp)
       ·rw [if_neg c13] at H
        exact absurd H (by simp)
      ·rw [if_neg c12] at H
       have c12b0 : decide (x29_2 < (l0_1.length : Int)) = false := decide_eq_false c12
       clear c12
       have HC16 := Aside0.mk H
       clear H
       go_upto_region 10 with (fail)
       go_cut [36] (fun v36 wc => ∃ (kq : Nat) (x36_15 : Bool), v36 = .bool x36_15 ∧ Aside0 (dec_Dec_Right.j2 kq (l0_1.length : Int) x36_15 a0_0 l0_1 a0_2 = some r) ∧ Aside0 (kq ≤ k2) ∧ Aside0 (wc.heap[gb367]? = some (.cells #[.bool a0_0, (.slice A0_1 l0_1.length c0_1), .int .i64 a0_2] 25 (0, 0))) ∧ Aside0 (Below w.heap.size w wc))
       case first =>
        have H := HC16.out
        clear HC16
        by_cases c17 : (wrap64 ((l0_1.length : Int) - a0_2)) > 1
        ·rw [if_pos c17] at H
         have c17b0 : decide (1 < (wrap64 ((l0_1.length : Int) - a0_2))) = true := decide_eq_true c17
         clear c17
         (first | rw [c17b0] | (simp only [i64_w, i32_w]; rw [c17b0]) | skip)
         by_cases c18 : 0 < (l0_1.length : Int)
         ·rw [if_pos c18] at H
          have c18b0 : decide (0 < (l0_1.length : Int)) = true := decide_eq_true c18
          have c18b1 : decide (0 < l0_1.length) = true := decide_eq_true (by omega)
          clear c18
          have H' := Aside0.mk H
          clear H
          have hcz19_0 : wr.cell? ⟨gb367, 0, none⟩ = some (.bool a0_0) := (blk_cell BK367.out 0).trans rfl
          have hcz19_1 : wr.cell? ⟨gb367, 1, none⟩ = some (.slice A0_1 l0_1.length c0_1) := (blk_cell BK367.out 1).trans rfl
          have hcz19_2 : wr.cell? ⟨gb367, 2, none⟩ = some (.int .i64 a0_2) := (blk_cell BK367.out 2).trans rfl
          have hfz19_0 := blk_frozen BK367.out 0
          have hfz19_1 := blk_frozen BK367.out 1
          have hfz19_2 := blk_frozen BK367.out 2
          have p369 : 0 ≤ (0 : Int) := (by omega)
          have q369 : 0 < (l0_1.length : Int) := of_decide_eq_true (by first | (with_reducible assumption) | assumption)
          obtain ⟨ad369, e369, hx369_0⟩ := Kd.at_int HR0_1.out 0 p369 q369
          cases e369
          have qi369 : (0 < l0_1.length) = True := eq_true (by omega)
          (try rw [show ((0 : Int)).toNat = 0 from rfl] at hx369_0)
          (try rw [Addr.add_zero'] at hx369_0)
          replace hx369_0 := (HB.out.cell (World.block_lt_of_cell? w _ hx369_0)).trans hx369_0
          replace p369 := eq_true p369
          replace q369 := eq_true q369
          go_wp2
          go_meet
          case rel => exact ⟨_, (((rd l0_1 0) == 0)), (by first | rfl | (simp; done) | (simp [*]; done)), H', ⟨by have := HJ1.out; have := HK2.out; first | omega | exact Nat.le_refl _⟩, ⟨S.b BK367.out⟩, ⟨by repeat (first | (with_reducible first | exact HB.out | apply below_alloc | apply pw_below_drewN | apply below_drew1 | refine below_set ?_ GE367.out) | exact HB.out)⟩⟩
         ·rw [if_neg c18] at H
          exact absurd H (by simp)
        ·rw [if_neg c17] at H
         have c17b0 : decide (1 < (wrap64 ((l0_1.length : Int) - a0_2))) = false := decide_eq_false c17
         clear c17
         (first | rw [c17b0] | (simp only [i64_w, i32_w]; rw [c17b0]) | skip)
         have H' := Aside0.mk H
         clear H
         have hcz20_0 : wr.cell? ⟨gb367, 0, none⟩ = some (.bool a0_0) := (blk_cell BK367.out 0).trans rfl
         have hcz20_1 : wr.cell? ⟨gb367, 1, none⟩ = some (.slice A0_1 l0_1.length c0_1) := (blk_cell BK367.out 1).trans rfl
         have hcz20_2 : wr.cell? ⟨gb367, 2, none⟩ = some (.int .i64 a0_2) := (blk_cell BK367.out 2).trans rfl
         have hfz20_0 := blk_frozen BK367.out 0
         have hfz20_1 := blk_frozen BK367.out 1
         have hfz20_2 := blk_frozen BK367.out 2
         go_wp2
         go_meet
         case rel => exact ⟨_, (false), (by first | rfl | (simp; done) | (simp [*]; done)), H', ⟨by have := HJ1.out; have := HK2.out; first | omega | exact Nat.le_refl _⟩, ⟨S.b BK367.out⟩, ⟨by repeat (first | (with_reducible first | exact HB.out | apply below_alloc | apply pw_below_drewN | apply below_drew1 | refine below_set ?_ GE367.out) | exact HB.out)⟩⟩
       case rest =>
        clear HC16
        try clear c1
        try clear p2
        try clear p3
        try clear q3
        try clear hx3
        try clear qi3
        try clear c5
        try clear c5b0
        try clear c5b1
        try clear c6
        try clear c6b0
        try clear c6b1
        try clear p6
        try clear c7
        try clear c7b0
        try clear c10
        try clear c12
        try clear c12b0
        try clear c13
        try clear c13b0
        try clear c14
        try clear c14b0
        try clear c15
        try clear c15b0
        try clear c17
        try clear c17b0
        try clear c18
        try clear c18b0
        try clear c18b1
        try clear hcz11_0
        try clear hcz11_1
        try clear hcz11_2
        try clear hcz19_0
        try clear hcz19_1
        try clear hcz19_2
        try clear hcz20_0
        try clear hcz20_1
        try clear hcz20_2
        try clear hcz4_0
        try clear hcz4_1
        try clear hcz4_2
        try clear hcz8_0
        try clear hcz8_1
        try clear hcz8_2
        try clear hcz9_0
        try clear hcz9_1
        try clear hcz9_2
        try clear hfz11_0
        try clear hfz11_1
        try clear hfz11_2
        try clear hfz19_0
        try clear hfz19_1
        try clear hfz19_2
        try clear hfz20_0
        try clear hfz20_1
        try clear hfz20_2
        try clear hfz4_0
        try clear hfz4_1
        try clear hfz4_2
        try clear hfz8_0
        try clear hfz8_1
        try clear hfz8_2
        try clear hfz9_0
        try clear hfz9_1
        try clear hfz9_2
        try clear hx368_0
        try clear hx369_0
        try clear p2
        try clear p368
        try clear p369
        try clear q368
        try clear q369
        obtain ⟨kq, x36_15, rfl, HA, HJ15, BK367, HB⟩ := hcut
        cases kq with
        | zero => exact absurd HA.out (by simp [dec_Dec_Right.j2])
        | succ kj15 =>
         have H := HA.out
         clear HA
         simp only [dec_Dec_Right.j2] at H
         by_cases c21 : x36_15 = true
         ·subst c21
          have H1 : (some false) = some r := by rw [if_pos rfl] at H; exact H
          clear H
          have H := H1
          clear H1
          obtain rfl := Option.some.inj H
          go_wp2
          go_ret
          exact ⟨by first | rfl | (simp [errW_none, errW_some] <;> rfl) | (simp [*, errW_none, errW_some] <;> rfl), by repeat (first | (with_reducible first | exact HB.out | apply below_alloc | apply pw_below_drewN | apply below_drew1 | refine below_set ?_ GE367.out) | exact HB.out)⟩
         ·replace c21 := Bool.eq_false_iff.mpr c21
          subst c21
          have H1 : (if a0_2 > 0 then (if 0 ≤ (wrap64 ((l0_1.length : Int) - 1)) then (if (wrap64 ((l0_1.length : Int) - 1)) < (l0_1.length : Int) then (dec_Dec_Right.j3 kj15 ((rd l0_1 (wrap64 ((l0_1.length : Int) - 1))) == 0) a0_0 l0_1 a0_2) else (none)) else (none)) else (dec_Dec_Right.j3 kj15 false a0_0 l0_1 a0_2)) = some r := by rw [if_neg (show ¬ (false = true) by decide)] at H; exact H
          clear H
          have H := H1
          clear H1
          have HC22 := Aside0.mk H
          clear H
          go_upto_region 11 with (fail)
          go_cut [36] (fun v36 wc => ∃ (kq : Nat) (x36_21 : Bool), v36 = .bool x36_21 ∧ Aside0 (dec_Dec_Right.j3 kq x36_21 a0_0 l0_1 a0_2 = some r) ∧ Aside0 (kq ≤ kj15) ∧ Aside0 (wc.heap[gb367]? = some (.cells #[.bool a0_0, (.slice A0_1 l0_1.length c0_1), .int .i64 a0_2] 25 (0, 0))) ∧ Aside0 (Below w.heap.size w wc))
          case first =>
           have H := HC22.out
           clear HC22
           by_cases c23 : a0_2 > 0
           ·rw [if_pos c23] at H
            have c23b0 : decide (0 < a0_2) = true := decide_eq_true c23
            clear c23
            (first | rw [c23b0] | (simp only [i64_w, i32_w]; rw [c23b0]) | skip)
            obtain ⟨ji24, hji24⟩ : ∃ j_ : Int, (wrap64 ((l0_1.length : Int) - 1)) = j_ := ⟨_, rfl⟩
            replace H : (if 0 ≤ (ji24) then (if (ji24) < (l0_1.length : Int) then (dec_Dec_Right.j3 kj15 ((rd l0_1 (ji24)) == 0) a0_0 l0_1 a0_2) else (none)) else (none)) = some r := by first | (rw [hji24] at H; exact H) | (simp only [hji24] at H ⊢; exact H)
            have hji24w : (IntKind.i64.wrap ((l0_1.length : Int) - 1)) = ji24 := (i64_w _).trans hji24
            by_cases c25 : 0 ≤ (ji24)
            ·rw [if_pos c25] at H
             have c25b0 : decide (0 ≤ (ji24)) = true := decide_eq_true c25
             clear c25
             by_cases c26 : (ji24) < (l0_1.length : Int)
             ·rw [if_pos c26] at H
              have c26b0 : decide ((ji24) < (l0_1.length : Int)) = true := decide_eq_true c26
              clear c26
              have H' := Aside0.mk H
              clear H
              have hcz27_0 : wc.cell? ⟨gb367, 0, none⟩ = some (.bool a0_0) := (blk_cell BK367.out 0).trans rfl
              have hcz27_1 : wc.cell? ⟨gb367, 1, none⟩ = some (.slice A0_1 l0_1.length c0_1) := (blk_cell BK367.out 1).trans rfl
              have hcz27_2 : wc.cell? ⟨gb367, 2, none⟩ = some (.int .i64 a0_2) := (blk_cell BK367.out 2).trans rfl
              have hfz27_0 := blk_frozen BK367.out 0
              have hfz27_1 := blk_frozen BK367.out 1
              have hfz27_2 := blk_frozen BK367.out 2
              have p370 : 0 ≤ ((ji24) : Int) := of_decide_eq_true (by first | (with_reducible assumption) | assumption)
              have q370 : (ji24) < (l0_1.length : Int) := of_decide_eq_true (by first | (with_reducible assumption) | assumption)
              obtain ⟨ad370, e370, hx370_0⟩ := Kd.at_int HR0_1.out (ji24) p370 q370
              cases e370
              replace hx370_0 := (HB.out.cell (World.block_lt_of_cell? w _ hx370_0)).trans hx370_0
              replace p370 := eq_true p370
              replace q370 := eq_true q370
              go_wp2
              go_meet
              case rel => exact ⟨_, (((rd l0_1 (ji24)) == 0)), (by first | rfl | (simp; done) | (simp only [← hji24] <;> (first | rfl | simp)) | (simp [*]; done)), H', ⟨by have := HJ1.out; have := HK2.out; have := HJ15.out; first | omega | exact Nat.le_refl _⟩, ⟨S.b BK367.out⟩, ⟨by repeat (first | (with_reducible first | exact HB.out | apply below_alloc | apply pw_below_drewN | apply below_drew1 | refine below_set ?_ GE367.out) | exact HB.out)⟩⟩
             ·rw [if_neg c26] at H
              exact absurd H (by simp)
            ·rw [if_neg c25] at H
             exact absurd H (by simp)
           ·rw [if_neg c23] at H
            have c23b0 : decide (0 < a0_2) = false := decide_eq_false c23
            clear c23
            (first | rw [c23b0] | (simp only [i64_w, i32_w]; rw [c23b0]) | skip)
            have H' := Aside0.mk H
            clear H
            have hcz28_0 : wc.cell? ⟨gb367, 0, none⟩ = some (.bool a0_0) := (blk_cell BK367.out 0).trans rfl
            have hcz28_1 : wc.cell? ⟨gb367, 1, none⟩ = some (.slice A0_1 l0_1.length c0_1) := (blk_cell BK367.out 1).trans rfl
            have hcz28_2 : wc.cell? ⟨gb367, 2, none⟩ = some (.int .i64 a0_2) := (blk_cell BK367.out 2).trans rfl
            have hfz28_0 := blk_frozen BK367.out 0
            have hfz28_1 := blk_frozen BK367.out 1
            have hfz28_2 := blk_frozen BK367.out 2
            go_wp2
            go_meet
            case rel => exact ⟨_, (false), (by first | rfl | (simp; done) | (simp [*]; done)), H', ⟨by have := HJ1.out; have := HK2.out; have := HJ15.out; first | omega | exact Nat.le_refl _⟩, ⟨S.b BK367.out⟩, ⟨by repeat (first | (with_reducible first | exact HB.out | apply below_alloc | apply pw_below_drewN | apply below_drew1 | refine below_set ?_ GE367.out) | exact HB.out)⟩⟩
          case rest =>
           clear HC22
           try clear c1
           try clear c2
           try clear p2
           try clear p3
           try clear q3
           try clear hx3
           try clear qi3
           try clear c5
           try clear c5b0
           try clear c5b1
           try clear c6
           try clear c6b0
           try clear c6b1
           try clear p6
           try clear c7
           try clear c7b0
           try clear c10
           try clear c12
           try clear c12b0
           try clear c13
           try clear c13b0
           try clear c14
           try clear c14b0
           try clear c15
           try clear c15b0
           try clear c17
           try clear c17b0
           try clear c18
           try clear c18b0
           try clear c18b1
           try clear c21
           try clear c23
           try clear c23b0
           try clear c25
           try clear c25b0
           try clear c26
           try clear c26b0
           try clear hcz11_0
           try clear hcz11_1
           try clear hcz11_2
           try clear hcz19_0
           try clear hcz19_1
           try clear hcz19_2
           try clear hcz20_0
           try clear hcz20_1
           try clear hcz20_2
           try clear hcz27_0
           try clear hcz27_1
           try clear hcz27_2
           try clear hcz28_0
           try clear hcz28_1
           try clear hcz28_2
           try clear hcz4_0
           try clear hcz4_1
           try clear hcz4_2
           try clear hcz8_0
           try clear hcz8_1
           try clear hcz8_2
           try clear hcz9_0
           try clear hcz9_1
           try clear hcz9_2
           try clear hfz11_0
           try clear hfz11_1
           try clear hfz11_2
           try clear hfz19_0
           try clear hfz19_1
           try clear hfz19_2
           try clear hfz20_0
           try clear hfz20_1
           try clear hfz20_2
           try clear hfz27_0
           try clear hfz27_1
           try clear hfz27_2
           try clear hfz28_0
           try clear hfz28_1
           try clear hfz28_2
           try clear hfz4_0
           try clear hfz4_1
           try clear hfz4_2
           try clear hfz8_0
           try clear hfz8_1
           try clear hfz8_2
           try clear hfz9_0
           try clear hfz9_1
           try clear hfz9_2
           try clear hx368_0
           try clear hx369_0
           try clear hx370_0
           try clear p2
           try clear p3
           try clear p368
           try clear p369
           try clear p370
           try clear p6
           try clear q3
           try clear q368
           try clear q369
           try clear q370
           obtain ⟨kq, x36_21, rfl, HA, HJ21, BK367, HB⟩ := hcut
           cases kq with
           | zero => exact absurd HA.out (by simp [dec_Dec_Right.j3])
           | succ kj21 =>
            have H := HA.out
            clear HA
            simp only [dec_Dec_Right.j3] at H
            by_cases c29 : x36_21 = true
            ·subst c29
             have H1 : (some false) = some r := by rw [if_pos rfl] at H; exact H
             clear H
             have H := H1
             clear H1
             obtain rfl := Option.some.inj H
             go_wp2
             go_ret
             exact ⟨by first | rfl | (simp [errW_none, errW_some] <;> rfl) | (simp [*, errW_none, errW_some] <;> rfl), by repeat (first | (with_reducible first | exact HB.out | apply below_alloc | apply pw_below_drewN | apply below_drew1 | refine below_set ?_ GE367.out) | exact HB.out)⟩
            ·replace c29 := Bool.eq_false_iff.mpr c29
             subst c29
             have H1 : (if a0_0 = true then ((G.dec_zero.f l0_1).bind fun t371 => (if t371 = true then (some false) else (some true))) else (some true)) = some r := by rw [if_neg (show ¬ (false = true) by decide)] at H; exact H
             clear H
             have H := H1
             clear H1
             by_cases c30 : a0_0 = true
             ·subst c30
              have H1 : ((G.dec_zero.f l0_1).bind fun t371 => (if t371 = true then (some false) else (some true))) = some r := by rw [if_pos rfl] at H; exact H
              clear H
              have H := H1
              clear H1
              replace H := Option.bind_eq_some_iff.mp H
              obtain ⟨t371, A310, H⟩ := H
              replace H : (if t371 = true then (some false) else (some true)) = some r := H
              have A31 := Aside0.mk A310
              clear A310
              by_cases c32 : t371 = true
              ·subst c32
               have H1 : (some false) = some r := by rw [if_pos rfl] at H; exact H
               clear H
               have H := H1
               clear H1
               obtain rfl := Option.some.inj H
               have hcz33_0 : wc.cell? ⟨gb367, 0, none⟩ = some (.bool true) := (blk_cell BK367.out 0).trans rfl
               have hcz33_1 : wc.cell? ⟨gb367, 1, none⟩ = some (.slice A0_1 l0_1.length c0_1) := (blk_cell BK367.out 1).trans rfl
               have hcz33_2 : wc.cell? ⟨gb367, 2, none⟩ = some (.int .i64 a0_2) := (blk_cell BK367.out 2).trans rfl
               have hfz33_0 := blk_frozen BK367.out 0
               have hfz33_1 := blk_frozen BK367.out 1
               have hfz33_2 := blk_frozen BK367.out 2
               go_wp2_with (first | (go_at_call 28; (with_reducible refine (G.dec_zero.calls _ _ l0_1 true _ ?side1 ?side2 A31.out).mono ?_); (case side1 => repeat (first | exact (Kd.C_below HR0_1.out HB.out) | (with_reducible refine Kd.C_alloc ?_ _) | (with_reducible refine Kd.C_drewN ?_ _) | (with_reducible refine Kd.C_drew ?_))); (case side2 => exact HC0_1.out); rintro e w' ⟨rfl, ⟨nd, rfl⟩⟩))
               go_ret
               exact ⟨by first | rfl | (simp [errW_none, errW_some] <;> rfl) | (simp [*, errW_none, errW_some] <;> rfl), by repeat (first | (with_reducible first | exact HB.out | apply below_alloc | apply pw_below_drewN | apply below_drew1 | refine below_set ?_ GE367.out) | exact HB.out)⟩
              ·replace c32 := Bool.eq_false_iff.mpr c32
               subst c32
               have H1 : (some true) = some r := by rw [if_neg (show ¬ (false = true) by decide)] at H; exact H
               clear H
               have H := H1
               clear H1
               obtain rfl := Option.some.inj H
               have hcz34_0 : wc.cell? ⟨gb367, 0, none⟩ = some (.bool true) := (blk_cell BK367.out 0).trans rfl
               have hcz34_1 : wc.cell? ⟨gb367, 1, none⟩ = some (.slice A0_1 l0_1.length c0_1) := (blk_cell BK367.out 1).trans rfl
               have hcz34_2 : wc.cell? ⟨gb367, 2, none⟩ = some (.int .i64 a0_2) := (blk_cell BK367.out 2).trans rfl
               have hfz34_0 := blk_frozen BK367.out 0
               have hfz34_1 := blk_frozen BK367.out 1
               have hfz34_2 := blk_frozen BK367.out 2
               go_wp2_with (first | (go_at_call 28; (with_reducible refine (G.dec_zero.calls _ _ l0_1 false _ ?side1 ?side2 A31.out).mono ?_); (case side1 => repeat (first | exact (Kd.C_below HR0_1.out HB.out) | (with_reducible refine Kd.C_alloc ?_ _) | (with_reducible refine Kd.C_drewN ?_ _) | (with_reducible refine Kd.C_drew ?_))); (case side2 => exact HC0_1.out); rintro e w' ⟨rfl, ⟨nd, rfl⟩⟩))
               go_ret
               exact ⟨by first | rfl | (simp [errW_none, errW_some] <;> rfl) | (simp [*, errW_none, errW_some] <;> rfl), by repeat (first | (with_reducible first | exact HB.out | apply below_alloc | apply pw_below_drewN | apply below_drew1 | refine below_set ?_ GE367.out) | exact HB.out)⟩
             ·replace c30 := Bool.eq_false_iff.mpr c30
              subst c30
              have H1 : (some true) = some r := by rw [if_neg (show ¬ (false = true) by decide)] at H; exact H
              clear H
              have H := H1
              clear H1
              obtain rfl := Option.some.inj H
              have hcz35_0 : wc.cell? ⟨gb367, 0, none⟩ = some (.bool false) := (blk_cell BK367.out 0).trans rfl
              have hcz35_1 : wc.cell? ⟨gb367, 1, none⟩ = some (.slice A0_1 l0_1.length c0_1) := (blk_cell BK367.out 1).trans rfl
              have hcz35_2 : wc.cell? ⟨gb367, 2, none⟩ = some (.int .i64 a0_2) := (blk_cell BK367.out 2).trans rfl
              have hfz35_0 := blk_frozen BK367.out 0
              have hfz35_1 := blk_frozen BK367.out 1
              have hfz35_2 := blk_frozen BK367.out 2
              go_wp2
              go_ret
              exact ⟨by first | rfl | (simp [errW_none, errW_some] <;> rfl) | (simp [*, errW_none, errW_some] <;> rfl), by repeat (first | (with_reducible first | exact HB.out | apply below_alloc | apply pw_below_drewN | apply below_drew1 | refine below_set ?_ GE367.out) | exact HB.out)⟩

end Go.Proofs.Ytnafjabpkbahdaa.Pr
