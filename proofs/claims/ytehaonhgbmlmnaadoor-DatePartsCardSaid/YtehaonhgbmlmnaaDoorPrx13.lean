-- printed by wip/gprint.py (ours) out of the translation, by the kit's print program with given contracts
import Derived.Test.YtehaonhgbmlmnaaDoorPrx0
namespace Go.Proofs.YtehaonhgbmlmnaaDoor.Pr
open Go.RowKit Go.Proofs.YtehaonhgbmlmnaaDoorW.PrintWords Go.Proofs.YtehaonhgbmlmnaaDoorW.PrintLast Go.Proofs.YtehaonhgbmlmnaaDoorW.PrintMore
attribute [local go_sem] max2_int min2_int max_two min_two max_three min_three max_four min_four   -- for this text's walks alone
set_option linter.unusedVariables false
set_option linter.unusedSimpArgs false

/-! ### rubriclaw6_decimal: function 37 -/
def rubriclaw6_decimal.l0 : Nat → Int → Int → ByteArray → Int → Option (ByteArray)
 | 0, _, _, _, _ => none
 | k + 1, x0, x1, x5, x6 => if x6 < x1 then ((some (([(wrap64 (48 + (Int.tmod x0 10))) % 256] : List Int) : List Int)).bind fun y368 => (if (strOfNums y368).size + x5.size ≤ 9223372036854775807 then (rubriclaw6_decimal.l0 k (wrap64 (Int.tdiv x0 10)) x1 ((strOfNums y368) ++ x5) (wrap64 (x6 + 1))) else (none))) else (some x5)
def rubriclaw6_decimal.f (k : Nat) (a0 : Int) (a1 : Int) : Option (ByteArray) := rubriclaw6_decimal.l0 k a0 a1 (⟨#[]⟩ : ByteArray) 0
theorem rubriclaw6_decimal.mono_l : ∀ k, (∀ y0 y1 y2 y3, LeO (rubriclaw6_decimal.l0 k y0 y1 y2 y3) (rubriclaw6_decimal.l0 (k + 1) y0 y1 y2 y3))
 | 0 => fun _ _ _ _ r h => by simp [rubriclaw6_decimal.l0] at h
 | k + 1 => by
  have ih0 := rubriclaw6_decimal.mono_l k
  ·intro y0 y1 y2 y3
   unfold rubriclaw6_decimal.l0
   repeat' first
   | (with_reducible exact ih0 _ _ _ _)
   | (with_reducible exact LeO.refl _)
   | (with_reducible exact LeO.none _)
   | (with_reducible refine LeO.ite ?_ ?_)
   | (with_reducible refine LeO.bind ?_ (fun _ => ?_))
   | exact ih0 _ _ _ _
   | exact LeO.none _
   | refine LeO.ite ?_ ?_
   | refine LeO.bind ?_ (fun _ => ?_)
theorem rubriclaw6_decimal.mono : ∀ a0 a1 k, LeO (rubriclaw6_decimal.f k a0 a1) (rubriclaw6_decimal.f (k + 1) a0 a1) := by
 intro a0 a1 k
 have ih0 := rubriclaw6_decimal.mono_l k
 unfold rubriclaw6_decimal.f
 repeat' first
   | (with_reducible exact ih0 _ _ _ _)
   | (with_reducible exact LeO.refl _)
   | (with_reducible exact LeO.none _)
   | (with_reducible refine LeO.ite ?_ ?_)
   | (with_reducible refine LeO.bind ?_ (fun _ => ?_))
   | exact ih0 _ _ _ _
   | exact LeO.none _
   | refine LeO.ite ?_ ?_
   | refine LeO.bind ?_ (fun _ => ?_)
set_option maxHeartbeats 8000000 in
set_option maxRecDepth 100000 in
theorem rubriclaw6_decimal.calls (k : Nat) (a0 : Int) (a1 : Int) (r : ByteArray) (w : World) (h : rubriclaw6_decimal.f k a0 a1 = some r) :
  Calls Tryd.prog 37 #[.int .i64 a0, .int .i64 a1] w fun e w' => e = .returned (.string r) ∧ Below w.heap.size w w' := by
 have HB := Aside0.mk (Below.refl w.heap.size w)
 have H : (rubriclaw6_decimal.l0 k a0 a1 (⟨#[]⟩ : ByteArray) 0) = some r := h
 clear h
 have H' := Aside0.mk H
 clear H
 go_enter Tryd.func37, Tryd.ntmps37
 go_wp2
 go_loopg [0, 5, 6] k (fun kq v0 v5 v6 w' => ∃ (x0_1 : Int) (x5_1 : ByteArray) (x6_1 : Int), v0 = .int .i64 x0_1 ∧ v5 = .string x5_1 ∧ v6 = .int .i64 x6_1 ∧ Aside0 (rubriclaw6_decimal.l0 kq x0_1 a1 x5_1 x6_1 = some r) ∧ Aside0 (kq ≤ k) ∧ Aside0 (Below w.heap.size w w'))
 case atStart => exact ⟨(a0), ((⟨#[]⟩ : ByteArray)), (0), (by first | rfl | (simp; done) | (simp [*]; done)), (by first | rfl | (simp; done) | (simp [*]; done)), (by first | rfl | (simp; done) | (simp [*]; done)), H', ⟨Nat.le_refl _⟩, ⟨by repeat (first | (with_reducible first | exact HB.out | apply below_alloc | apply pw_below_drewN | apply below_drew1) | exact HB.out)⟩⟩
 case round =>
  clear H'
  try clear p2
  obtain ⟨x0_1, x5_1, x6_1, rfl, rfl, rfl, HA, HK1, HB⟩ := hrel
  cases gk with
  | zero => exact absurd HA.out (by simp [rubriclaw6_decimal.l0])
  | succ k1 =>
   have H := HA.out
   clear HA
   simp only [rubriclaw6_decimal.l0] at H
   by_cases c3 : x6_1 < a1
   ·rw [if_pos c3] at H
    have c3b0 : decide (x6_1 < a1) = true := decide_eq_true c3
    clear c3
    obtain ⟨y368, hy368⟩ : ∃ y_ : List Int, y_ = (([(wrap64 (48 + (Int.tmod x0_1 10))) % 256] : List Int)) := ⟨_, rfl⟩
    replace H : (if (strOfNums y368).size + x5_1.size ≤ 9223372036854775807 then (rubriclaw6_decimal.l0 k1 (wrap64 (Int.tdiv x0_1 10)) a1 ((strOfNums y368) ++ x5_1) (wrap64 (x6_1 + 1))) else (none)) = some r := by first | (rw [hy368]; with_reducible exact H) | (have H2_ := (Option.bind_some _ _).symm.trans H; rw [hy368]; with_reducible exact H2_) | (have H2_ := (Option.bind_some _ _).symm.trans H; with_reducible exact H2_) | with_reducible exact H | (rw [hy368]; exact H) | exact H
    have Ny368 := Aside0.mk hy368
    clear hy368
    by_cases c4 : (strOfNums y368).size + x5_1.size ≤ 9223372036854775807
    ·rw [if_pos c4] at H
     have c4b0 := eq_true c4
     have c4b1 : decide ((strOfNums y368).size + x5_1.size ≤ 9223372036854775807) = true := decide_eq_true c4
     try have c4b2 : (9223372036854775807 < (strOfNums y368).size + x5_1.size) = False := eq_false (Nat.not_lt.2 c4)
     have H' := Aside0.mk H
     clear H
     go_wp2_with (first | ((with_reducible refine gate_dst (N := 16) rfl ?_); refine Kd.R_lit (Kd.int .u8) _ 5 ?hg (N := 16) ?hd (xs := ([(wrap64 (48 + (Int.tmod x0_1 10))) % 256] : List Int)) (inner := [.int .u8 ((wrap64 (48 + (Int.tmod x0_1 10))) % 256)]) (ok := fun _ => True) (okp := fun _ => True) ?hr ?hp (fun _ hk => hk) trivial (Below.refl _ _) (Nat.le_refl _) (by simp) ?_; (case hd => rfl); (case hg => rfl); (case hr => first | (go_simp; done) | (go_simp; rfl)); (case hp => exact (Reps.one (show Kd.M (Kd.int .u8) _ _ _ ((wrap64 (48 + (Int.tmod x0_1 10))) % 256) [.int .u8 ((wrap64 (48 + (Int.tmod x0_1 10))) % 256)] from rfl) (Reps.none _ _))); intro v369 w5 ho6 hb hg_ hnew_; clear hg_ hnew_; (first | rw [← Ny368.out] at ho6 | (simp only [Int.reduceToNat] at ho6; rw [← Ny368.out] at ho6)); have n0_ := Aside0.mk (Kd.R_lower ho6 (below_size (by repeat (first | (with_reducible first | exact HB.out | apply below_alloc | apply pw_below_drewN | apply below_drew1) | exact HB.out)))); have n1_ := Aside0.mk (below_step (by repeat (first | (with_reducible first | exact HB.out | apply below_alloc | apply pw_below_drewN | apply below_drew1) | exact HB.out)) hb); clear HB; have HO370 := n0_; have HB := n1_; clear n0_ n1_; clear hb ho6; have hcv7 := own_string (P := Tryd.prog) Tryd.underlying66 Tryd.underlying5 Tryd.underlying9 (Kd.own_of_R HO370.out)))
     go_roundg k1
     case measure => have := HK1.out; omega
     case rel => exact ⟨(wrap64 (Int.tdiv x0_1 10)), ((strOfNums y368) ++ x5_1), (wrap64 (x6_1 + 1)), (by first | rfl | (simp; done) | (simp [*]; done)), (by first | rfl | (simp; done) | (simp [*]; done)), (by first | rfl | (simp; done) | (simp [*]; done)), H', ⟨by have := HK1.out; omega⟩, ⟨by repeat (first | (with_reducible first | exact HB.out | apply below_alloc | apply pw_below_drewN | apply below_drew1) | exact HB.out)⟩⟩
    ·rw [if_neg c4] at H
     exact absurd H (by simp)
   ·rw [if_neg c3] at H
    have c3b0 : decide (x6_1 < a1) = false := decide_eq_false c3
    clear c3
    obtain rfl := Option.some.inj H
    go_wp2
    go_ret
    exact ⟨by first | rfl | (simp [errW_none, errW_some] <;> rfl) | (simp [*, errW_none, errW_some] <;> rfl), by repeat (first | (with_reducible first | exact HB.out | apply below_alloc | apply pw_below_drewN | apply below_drew1) | exact HB.out)⟩

/-! ### rubriclaw6_text: function 12 -/
def rubriclaw6_text.f (k : Nat) (a0_0 : Int) (a0_1 : Int) (a0_2 : Int) (a0_3 : Int) (a0_4 : Int) (a0_5 : Int) (a0_6 : Bool) (a0_7 : Int) : Option (ByteArray) := (rubriclaw6_decimal.f k a0_1 4).bind fun t372 => (if t372.size + 1 ≤ 9223372036854775807 then ((rubriclaw6_decimal.f k a0_2 2).bind fun t373 => (if (t372 ++ (⟨#[45]⟩ : ByteArray)).size + t373.size ≤ 9223372036854775807 then (if ((t372 ++ (⟨#[45]⟩ : ByteArray)) ++ t373).size + 1 ≤ 9223372036854775807 then ((rubriclaw6_decimal.f k a0_3 2).bind fun t374 => (if (((t372 ++ (⟨#[45]⟩ : ByteArray)) ++ t373) ++ (⟨#[45]⟩ : ByteArray)).size + t374.size ≤ 9223372036854775807 then (if ((((t372 ++ (⟨#[45]⟩ : ByteArray)) ++ t373) ++ (⟨#[45]⟩ : ByteArray)) ++ t374).size + 1 ≤ 9223372036854775807 then ((rubriclaw6_decimal.f k (wrap64 (Int.tdiv a0_4 3600)) 2).bind fun t375 => (if (((((t372 ++ (⟨#[45]⟩ : ByteArray)) ++ t373) ++ (⟨#[45]⟩ : ByteArray)) ++ t374) ++ (⟨#[84]⟩ : ByteArray)).size + t375.size ≤ 9223372036854775807 then (if ((((((t372 ++ (⟨#[45]⟩ : ByteArray)) ++ t373) ++ (⟨#[45]⟩ : ByteArray)) ++ t374) ++ (⟨#[84]⟩ : ByteArray)) ++ t375).size + 1 ≤ 9223372036854775807 then ((rubriclaw6_decimal.f k (Int.tmod (wrap64 (Int.tdiv a0_4 60)) 60) 2).bind fun t376 => (if (((((((t372 ++ (⟨#[45]⟩ : ByteArray)) ++ t373) ++ (⟨#[45]⟩ : ByteArray)) ++ t374) ++ (⟨#[84]⟩ : ByteArray)) ++ t375) ++ (⟨#[58]⟩ : ByteArray)).size + t376.size ≤ 9223372036854775807 then (if ((((((((t372 ++ (⟨#[45]⟩ : ByteArray)) ++ t373) ++ (⟨#[45]⟩ : ByteArray)) ++ t374) ++ (⟨#[84]⟩ : ByteArray)) ++ t375) ++ (⟨#[58]⟩ : ByteArray)) ++ t376).size + 1 ≤ 9223372036854775807 then ((rubriclaw6_decimal.f k (Int.tmod a0_4 60) 2).bind fun t377 => (if (((((((((t372 ++ (⟨#[45]⟩ : ByteArray)) ++ t373) ++ (⟨#[45]⟩ : ByteArray)) ++ t374) ++ (⟨#[84]⟩ : ByteArray)) ++ t375) ++ (⟨#[58]⟩ : ByteArray)) ++ t376) ++ (⟨#[58]⟩ : ByteArray)).size + t377.size ≤ 9223372036854775807 then (if ((((((((((t372 ++ (⟨#[45]⟩ : ByteArray)) ++ t373) ++ (⟨#[45]⟩ : ByteArray)) ++ t374) ++ (⟨#[84]⟩ : ByteArray)) ++ t375) ++ (⟨#[58]⟩ : ByteArray)) ++ t376) ++ (⟨#[58]⟩ : ByteArray)) ++ t377).size + 1 ≤ 9223372036854775807 then (some (((((((((((t372 ++ (⟨#[45]⟩ : ByteArray)) ++ t373) ++ (⟨#[45]⟩ : ByteArray)) ++ t374) ++ (⟨#[84]⟩ : ByteArray)) ++ t375) ++ (⟨#[58]⟩ : ByteArray)) ++ t376) ++ (⟨#[58]⟩ : ByteArray)) ++ t377) ++ (⟨#[90]⟩ : ByteArray))) else (none)) else (none))) else (none)) else (none))) else (none)) else (none))) else (none)) else (none))) else (none)) else (none))) else (none))
theorem rubriclaw6_text.mono : ∀ a0 a1 a2 a3 a4 a5 a6 a7 k, LeO (rubriclaw6_text.f k a0 a1 a2 a3 a4 a5 a6 a7) (rubriclaw6_text.f (k + 1) a0 a1 a2 a3 a4 a5 a6 a7) := by
 intro a0 a1 a2 a3 a4 a5 a6 a7 k
 unfold rubriclaw6_text.f
 repeat' first
   | (with_reducible exact rubriclaw6_decimal.mono _ _ _)
   | (with_reducible exact LeO.refl _)
   | (with_reducible exact LeO.none _)
   | (with_reducible refine LeO.ite ?_ ?_)
   | (with_reducible refine LeO.bind ?_ (fun _ => ?_))
   | exact rubriclaw6_decimal.mono _ _ _
   | exact LeO.none _
   | refine LeO.ite ?_ ?_
   | refine LeO.bind ?_ (fun _ => ?_)
def rubriclaw6_text.T1 : Bool × List (List Nat × List Nat) := (true, [([], []), ([0], [0]), ([1], [1]), ([2], [2]), ([], []), ([4], [4]), ([5, 2], [5]), ([3, 6], [3, 6]), ([7], [7]), ([], []), ([9], [9]), ([10, 6], [10]), ([8, 11], [8, 11]), ([12], [12]), ([], []), ([14], [14]), ([15], [15]), ([16, 11], [16]), ([13, 17], [13, 17]), ([18], [18]), ([], []), ([20], [20]), ([21], [21]), ([22], [22]), ([23, 17], [23]), ([19, 24], [19, 24]), ([25], [25]), ([], []), ([27], [27]), ([28], [28]), ([29, 24], [29]), ([26, 30], [26, 30]), ([31], [31]), ([32, 30, 0, 1, 2, 3, 4, 5, 6, 7, 8, 9, 10, 11, 12, 13, 14, 15, 16, 17, 18, 19, 20, 21, 22, 23, 24, 25, 26, 27, 28, 29, 30, 31, 32], [32])])
def rubriclaw6_text.B1 : List Nat := [0, 1, 3, 7, 0, 16, 55, 127, 255, 0, 512, 1655, 4095, 8191, 0, 16384, 49152, 118391, 262143, 524287, 0, 1048576, 3145728, 7340032, 15978103, 33554431, 67108863, 0, 134217728, 402653184, 972279415, 2147483647, 4294967295, 8589934591]
theorem rubriclaw6_text.tab1 : rtab .any (opsOf Tryd.f12 1) = rubriclaw6_text.T1 := by kernel_rfl
theorem rubriclaw6_text.bits1 : waitsOk rubriclaw6_text.T1.2 rubriclaw6_text.B1 = true := by kernel_rfl
set_option maxHeartbeats 8000000 in
set_option maxRecDepth 100000 in
theorem rubriclaw6_text.calls (k : Nat) (a0_0 : Int) (a0_1 : Int) (a0_2 : Int) (a0_3 : Int) (a0_4 : Int) (a0_5 : Int) (a0_6 : Bool) (a0_7 : Int) (r : ByteArray) (w : World) (h : rubriclaw6_text.f k a0_0 a0_1 a0_2 a0_3 a0_4 a0_5 a0_6 a0_7 = some r) :
  Calls Tryd.prog 12 #[.agg #[.int .i64 a0_0, .int .i64 a0_1, .int .i64 a0_2, .int .i64 a0_3, .int .i64 a0_4, .int .i64 a0_5, .bool a0_6, .int .i64 a0_7]] w fun e w' => e = .returned (.string r) ∧ Below w.heap.size w w' := by
 have hu24 := Tryd.underlying24
 have HB := Aside0.mk (Below.refl w.heap.size w)
 have H : ((rubriclaw6_decimal.f k a0_1 4).bind fun t372 => (if t372.size + 1 ≤ 9223372036854775807 then ((rubriclaw6_decimal.f k a0_2 2).bind fun t373 => (if (t372 ++ (⟨#[45]⟩ : ByteArray)).size + t373.size ≤ 9223372036854775807 then (if ((t372 ++ (⟨#[45]⟩ : ByteArray)) ++ t373).size + 1 ≤ 9223372036854775807 then ((rubriclaw6_decimal.f k a0_3 2).bind fun t374 => (if (((t372 ++ (⟨#[45]⟩ : ByteArray)) ++ t373) ++ (⟨#[45]⟩ : ByteArray)).size + t374.size ≤ 9223372036854775807 then (if ((((t372 ++ (⟨#[45]⟩ : ByteArray)) ++ t373) ++ (⟨#[45]⟩ : ByteArray)) ++ t374).size + 1 ≤ 9223372036854775807 then ((rubriclaw6_decimal.f k (wrap64 (Int.tdiv a0_4 3600)) 2).bind fun t375 => (if (((((t372 ++ (⟨#[45]⟩ : ByteArray)) ++ t373) ++ (⟨#[45]⟩ : ByteArray)) ++ t374) ++ (⟨#[84]⟩ : ByteArray)).size + t375.size ≤ 9223372036854775807 then (if ((((((t372 ++ (⟨#[45]⟩ : ByteArray)) ++ t373) ++ (⟨#[45]⟩ : ByteArray)) ++ t374) ++ (⟨#[84]⟩ : ByteArray)) ++ t375).size + 1 ≤ 9223372036854775807 then ((rubriclaw6_decimal.f k (Int.tmod (wrap64 (Int.tdiv a0_4 60)) 60) 2).bind fun t376 => (if (((((((t372 ++ (⟨#[45]⟩ : ByteArray)) ++ t373) ++ (⟨#[45]⟩ : ByteArray)) ++ t374) ++ (⟨#[84]⟩ : ByteArray)) ++ t375) ++ (⟨#[58]⟩ : ByteArray)).size + t376.size ≤ 9223372036854775807 then (if ((((((((t372 ++ (⟨#[45]⟩ : ByteArray)) ++ t373) ++ (⟨#[45]⟩ : ByteArray)) ++ t374) ++ (⟨#[84]⟩ : ByteArray)) ++ t375) ++ (⟨#[58]⟩ : ByteArray)) ++ t376).size + 1 ≤ 9223372036854775807 then ((rubriclaw6_decimal.f k (Int.tmod a0_4 60) 2).bind fun t377 => (if (((((((((t372 ++ (⟨#[45]⟩ : ByteArray)) ++ t373) ++ (⟨#[45]⟩ : ByteArray)) ++ t374) ++ (⟨#[84]⟩ : ByteArray)) ++ t375) ++ (⟨#[58]⟩ : ByteArray)) ++ t376) ++ (⟨#[58]⟩ : ByteArray)).size + t377.size ≤ 9223372036854775807 then (if ((((((((((t372 ++ (⟨#[45]⟩ : ByteArray)) ++ t373) ++ (⟨#[45]⟩ : ByteArray)) ++ t374) ++ (⟨#[84]⟩ : ByteArray)) ++ t375) ++ (⟨#[58]⟩ : ByteArray)) ++ t376) ++ (⟨#[58]⟩ : ByteArray)) ++ t377).size + 1 ≤ 9223372036854775807 then (some (((((((((((t372 ++ (⟨#[45]⟩ : ByteArray)) ++ t373) ++ (⟨#[45]⟩ : ByteArray)) ++ t374) ++ (⟨#[84]⟩ : ByteArray)) ++ t375) ++ (⟨#[58]⟩ : ByteArray)) ++ t376) ++ (⟨#[58]⟩ : ByteArray)) ++ t377) ++ (⟨#[90]⟩ : ByteArray))) else (none)) else (none))) else (none)) else (none))) else (none)) else (none))) else (none)) else (none))) else (none)) else (none))) else (none))) = some r := h
 clear h
 replace H := Option.bind_eq_some_iff.mp H
 obtain ⟨t372, A20, H⟩ := H
 try dsimp only at H
 have A2 := Aside0.mk A20
 clear A20
 by_cases c3 : t372.size + 1 ≤ 9223372036854775807
 ·rw [if_pos c3] at H
  have c3b0 := eq_true c3
  have c3b1 : decide (t372.size + 1 ≤ 9223372036854775807) = true := decide_eq_true c3
  try have c3b2 : (9223372036854775807 < t372.size + 1) = False := eq_false (Nat.not_lt.2 c3)
  have c3n := c3
  try simp only [ByteArray.size_append, show (⟨#[45]⟩ : ByteArray).size = 1 from rfl, show (⟨#[84]⟩ : ByteArray).size = 1 from rfl, show (⟨#[58]⟩ : ByteArray).size = 1 from rfl, show (⟨#[90]⟩ : ByteArray).size = 1 from rfl] at c3n
  have c3m := eq_false (Nat.not_lt.2 c3n)
  replace H := Option.bind_eq_some_iff.mp H
  obtain ⟨t373, A40, H⟩ := H
  try dsimp only at H
  have A4 := Aside0.mk A40
  clear A40
  by_cases c5 : (t372 ++ (⟨#[45]⟩ : ByteArray)).size + t373.size ≤ 9223372036854775807
  ·rw [if_pos c5] at H
   have c5b0 := eq_true c5
   have c5b1 : decide ((t372 ++ (⟨#[45]⟩ : ByteArray)).size + t373.size ≤ 9223372036854775807) = true := decide_eq_true c5
   try have c5b2 : (9223372036854775807 < (t372 ++ (⟨#[45]⟩ : ByteArray)).size + t373.size) = False := eq_false (Nat.not_lt.2 c5)
   have c5n := c5
   try simp only [ByteArray.size_append, show (⟨#[45]⟩ : ByteArray).size = 1 from rfl, show (⟨#[84]⟩ : ByteArray).size = 1 from rfl, show (⟨#[58]⟩ : ByteArray).size = 1 from rfl, show (⟨#[90]⟩ : ByteArray).size = 1 from rfl] at c5n
   have c5m := eq_false (Nat.not_lt.2 c5n)
   by_cases c6 : ((t372 ++ (⟨#[45]⟩ : ByteArray)) ++ t373).size + 1 ≤ 9223372036854775807
   ·rw [if_pos c6] at H
    have c6b0 := eq_true c6
    have c6b1 : decide (((t372 ++ (⟨#[45]⟩ : ByteArray)) ++ t373).size + 1 ≤ 9223372036854775807) = true := decide_eq_true c6
    try have c6b2 : (9223372036854775807 < ((t372 ++ (⟨#[45]⟩ : ByteArray)) ++ t373).size + 1) = False := eq_false (Nat.not_lt.2 c6)
    have c6n := c6
    try simp only [ByteArray.size_append, show (⟨#[45]⟩ : ByteArray).size = 1 from rfl, show (⟨#[84]⟩ : ByteArray).size = 1 from rfl, show (⟨#[58]⟩ : ByteArray).size = 1 from rfl, show (⟨#[90]⟩ : ByteArray).size = 1 from rfl] at c6n
    have c6m := eq_false (Nat.not_lt.2 c6n)
    replace H := Option.bind_eq_some_iff.mp H
    obtain ⟨t374, A70, H⟩ := H
    try dsimp only at H
    have A7 := Aside0.mk A70
    clear A70
    by_cases c8 : (((t372 ++ (⟨#[45]⟩ : ByteArray)) ++ t373) ++ (⟨#[45]⟩ : ByteArray)).size + t374.size ≤ 9223372036854775807
    ·rw [if_pos c8] at H
     have c8b0 := eq_true c8
     have c8b1 : decide ((((t372 ++ (⟨#[45]⟩ : ByteArray)) ++ t373) ++ (⟨#[45]⟩ : ByteArray)).size + t374.size ≤ 9223372036854775807) = true := decide_eq_true c8
     try have c8b2 : (9223372036854775807 < (((t372 ++ (⟨#[45]⟩ : ByteArray)) ++ t373) ++ (⟨#[45]⟩ : ByteArray)).size + t374.size) = False := eq_false (Nat.not_lt.2 c8)
     have c8n := c8
     try simp only [ByteArray.size_append, show (⟨#[45]⟩ : ByteArray).size = 1 from rfl, show (⟨#[84]⟩ : ByteArray).size = 1 from rfl, show (⟨#[58]⟩ : ByteArray).size = 1 from rfl, show (⟨#[90]⟩ : ByteArray).size = 1 from rfl] at c8n
     have c8m := eq_false (Nat.not_lt.2 c8n)
     by_cases c9 : ((((t372 ++ (⟨#[45]⟩ : ByteArray)) ++ t373) ++ (⟨#[45]⟩ : ByteArray)) ++ t374).size + 1 ≤ 9223372036854775807
     ·rw [if_pos c9] at H
      have c9b0 := eq_true c9
      have c9b1 : decide (((((t372 ++ (⟨#[45]⟩ : ByteArray)) ++ t373) ++ (⟨#[45]⟩ : ByteArray)) ++ t374).size + 1 ≤ 9223372036854775807) = true := decide_eq_true c9
      try have c9b2 : (9223372036854775807 < ((((t372 ++ (⟨#[45]⟩ : ByteArray)) ++ t373) ++ (⟨#[45]⟩ : ByteArray)) ++ t374).size + 1) = False := eq_false (Nat.not_lt.2 c9)
      have c9n := c9
      try simp only [ByteArray.size_append, show (⟨#[45]⟩ : ByteArray).size = 1 from rfl, show (⟨#[84]⟩ : ByteArray).size = 1 from rfl, show (⟨#[58]⟩ : ByteArray).size = 1 from rfl, show (⟨#[90]⟩ : ByteArray).size = 1 from rfl] at c9n
      have c9m := eq_false (Nat.not_lt.2 c9n)
      replace H := Option.bind_eq_some_iff.mp H
      obtain ⟨t375, A100, H⟩ := H
      try dsimp only at H
      have A10 := Aside0.mk A100
      clear A100
      by_cases c11 : (((((t372 ++ (⟨#[45]⟩ : ByteArray)) ++ t373) ++ (⟨#[45]⟩ : ByteArray)) ++ t374) ++ (⟨#[84]⟩ : ByteArray)).size + t375.size ≤ 9223372036854775807
      ·rw [if_pos c11] at H
       have c11b0 := eq_true c11
       have c11b1 : decide ((((((t372 ++ (⟨#[45]⟩ : ByteArray)) ++ t373) ++ (⟨#[45]⟩ : ByteArray)) ++ t374) ++ (⟨#[84]⟩ : ByteArray)).size + t375.size ≤ 9223372036854775807) = true := decide_eq_true c11
       try have c11b2 : (9223372036854775807 < (((((t372 ++ (⟨#[45]⟩ : ByteArray)) ++ t373) ++ (⟨#[45]⟩ : ByteArray)) ++ t374) ++ (⟨#[84]⟩ : ByteArray)).size + t375.size) = False := eq_false (Nat.not_lt.2 c11)
       have c11n := c11
       try simp only [ByteArray.size_append, show (⟨#[45]⟩ : ByteArray).size = 1 from rfl, show (⟨#[84]⟩ : ByteArray).size = 1 from rfl, show (⟨#[58]⟩ : ByteArray).size = 1 from rfl, show (⟨#[90]⟩ : ByteArray).size = 1 from rfl] at c11n
       have c11m := eq_false (Nat.not_lt.2 c11n)
       by_cases c12 : ((((((t372 ++ (⟨#[45]⟩ : ByteArray)) ++ t373) ++ (⟨#[45]⟩ : ByteArray)) ++ t374) ++ (⟨#[84]⟩ : ByteArray)) ++ t375).size + 1 ≤ 9223372036854775807
       ·rw [if_pos c12] at H
        have c12b0 := eq_true c12
        have c12b1 : decide (((((((t372 ++ (⟨#[45]⟩ : ByteArray)) ++ t373) ++ (⟨#[45]⟩ : ByteArray)) ++ t374) ++ (⟨#[84]⟩ : ByteArray)) ++ t375).size + 1 ≤ 9223372036854775807) = true := decide_eq_true c12
        try have c12b2 : (9223372036854775807 < ((((((t372 ++ (⟨#[45]⟩ : ByteArray)) ++ t373) ++ (⟨#[45]⟩ : ByteArray)) ++ t374) ++ (⟨#[84]⟩ : ByteArray)) ++ t375).size + 1) = False := eq_false (Nat.not_lt.2 c12)
        have c12n := c12
        try simp only [ByteArray.size_append, show (⟨#[45]⟩ : ByteArray).size = 1 from rfl, show (⟨#[84]⟩ : ByteArray).size = 1 from rfl, show (⟨#[58]⟩ : ByteArray).size = 1 from rfl, show (⟨#[90]⟩ : ByteArray).size = 1 from rfl] at c12n
        have c12m := eq_false (Nat.not_lt.2 c12n)
        replace H := Option.bind_eq_some_iff.mp H
        obtain ⟨t376, A130, H⟩ := H
        try dsimp only at H
        have A13 := Aside0.mk A130
        clear A130
        by_cases c14 : (((((((t372 ++ (⟨#[45]⟩ : ByteArray)) ++ t373) ++ (⟨#[45]⟩ : ByteArray)) ++ t374) ++ (⟨#[84]⟩ : ByteArray)) ++ t375) ++ (⟨#[58]⟩ : ByteArray)).size + t376.size ≤ 9223372036854775807
        ·rw [if_pos c14] at H
         have c14b0 := eq_true c14
         have c14b1 : decide ((((((((t372 ++ (⟨#[45]⟩ : ByteArray)) ++ t373) ++ (⟨#[45]⟩ : ByteArray)) ++ t374) ++ (⟨#[84]⟩ : ByteArray)) ++ t375) ++ (⟨#[58]⟩ : ByteArray)).size + t376.size ≤ 9223372036854775807) = true := decide_eq_true c14
         try have c14b2 : (9223372036854775807 < (((((((t372 ++ (⟨#[45]⟩ : ByteArray)) ++ t373) ++ (⟨#[45]⟩ : ByteArray)) ++ t374) ++ (⟨#[84]⟩ : ByteArray)) ++ t375) ++ (⟨#[58]⟩ : ByteArray)).size + t376.size) = False := eq_false (Nat.not_lt.2 c14)
         have c14n := c14
         try simp only [ByteArray.size_append, show (⟨#[45]⟩ : ByteArray).size = 1 from rfl, show (⟨#[84]⟩ : ByteArray).size = 1 from rfl, show (⟨#[58]⟩ : ByteArray).size = 1 from rfl, show (⟨#[90]⟩ : ByteArray).size = 1 from rfl] at c14n
         have c14m := eq_false (Nat.not_lt.2 c14n)
         by_cases c15 : ((((((((t372 ++ (⟨#[45]⟩ : ByteArray)) ++ t373) ++ (⟨#[45]⟩ : ByteArray)) ++ t374) ++ (⟨#[84]⟩ : ByteArray)) ++ t375) ++ (⟨#[58]⟩ : ByteArray)) ++ t376).size + 1 ≤ 9223372036854775807
         ·rw [if_pos c15] at H
          have c15b0 := eq_true c15
          have c15b1 : decide (((((((((t372 ++ (⟨#[45]⟩ : ByteArray)) ++ t373) ++ (⟨#[45]⟩ : ByteArray)) ++ t374) ++ (⟨#[84]⟩ : ByteArray)) ++ t375) ++ (⟨#[58]⟩ : ByteArray)) ++ t376).size + 1 ≤ 9223372036854775807) = true := decide_eq_true c15
          try have c15b2 : (9223372036854775807 < ((((((((t372 ++ (⟨#[45]⟩ : ByteArray)) ++ t373) ++ (⟨#[45]⟩ : ByteArray)) ++ t374) ++ (⟨#[84]⟩ : ByteArray)) ++ t375) ++ (⟨#[58]⟩ : ByteArray)) ++ t376).size + 1) = False := eq_false (Nat.not_lt.2 c15)
          have c15n := c15
          try simp only [ByteArray.size_append, show (⟨#[45]⟩ : ByteArray).size = 1 from rfl, show (⟨#[84]⟩ : ByteArray).size = 1 from rfl, show (⟨#[58]⟩ : ByteArray).size = 1 from rfl, show (⟨#[90]⟩ : ByteArray).size = 1 from rfl] at c15n
          have c15m := eq_false (Nat.not_lt.2 c15n)
          replace H := Option.bind_eq_some_iff.mp H
          obtain ⟨t377, A160, H⟩ := H
          try dsimp only at H
          have A16 := Aside0.mk A160
          clear A160
          by_cases c17 : (((((((((t372 ++ (⟨#[45]⟩ : ByteArray)) ++ t373) ++ (⟨#[45]⟩ : ByteArray)) ++ t374) ++ (⟨#[84]⟩ : ByteArray)) ++ t375) ++ (⟨#[58]⟩ : ByteArray)) ++ t376) ++ (⟨#[58]⟩ : ByteArray)).size + t377.size ≤ 9223372036854775807
          ·rw [if_pos c17] at H
           have c17b0 := eq_true c17
           have c17b1 : decide ((((((((((t372 ++ (⟨#[45]⟩ : ByteArray)) ++ t373) ++ (⟨#[45]⟩ : ByteArray)) ++ t374) ++ (⟨#[84]⟩ : ByteArray)) ++ t375) ++ (⟨#[58]⟩ : ByteArray)) ++ t376) ++ (⟨#[58]⟩ : ByteArray)).size + t377.size ≤ 9223372036854775807) = true := decide_eq_true c17
           try have c17b2 : (9223372036854775807 < (((((((((t372 ++ (⟨#[45]⟩ : ByteArray)) ++ t373) ++ (⟨#[45]⟩ : ByteArray)) ++ t374) ++ (⟨#[84]⟩ : ByteArray)) ++ t375) ++ (⟨#[58]⟩ : ByteArray)) ++ t376) ++ (⟨#[58]⟩ : ByteArray)).size + t377.size) = False := eq_false (Nat.not_lt.2 c17)
           have c17n := c17
           try simp only [ByteArray.size_append, show (⟨#[45]⟩ : ByteArray).size = 1 from rfl, show (⟨#[84]⟩ : ByteArray).size = 1 from rfl, show (⟨#[58]⟩ : ByteArray).size = 1 from rfl, show (⟨#[90]⟩ : ByteArray).size = 1 from rfl] at c17n
           have c17m := eq_false (Nat.not_lt.2 c17n)
           by_cases c18 : ((((((((((t372 ++ (⟨#[45]⟩ : ByteArray)) ++ t373) ++ (⟨#[45]⟩ : ByteArray)) ++ t374) ++ (⟨#[84]⟩ : ByteArray)) ++ t375) ++ (⟨#[58]⟩ : ByteArray)) ++ t376) ++ (⟨#[58]⟩ : ByteArray)) ++ t377).size + 1 ≤ 9223372036854775807
           ·rw [if_pos c18] at H
            have c18b0 := eq_true c18
            have c18b1 : decide (((((((((((t372 ++ (⟨#[45]⟩ : ByteArray)) ++ t373) ++ (⟨#[45]⟩ : ByteArray)) ++ t374) ++ (⟨#[84]⟩ : ByteArray)) ++ t375) ++ (⟨#[58]⟩ : ByteArray)) ++ t376) ++ (⟨#[58]⟩ : ByteArray)) ++ t377).size + 1 ≤ 9223372036854775807) = true := decide_eq_true c18
            try have c18b2 : (9223372036854775807 < ((((((((((t372 ++ (⟨#[45]⟩ : ByteArray)) ++ t373) ++ (⟨#[45]⟩ : ByteArray)) ++ t374) ++ (⟨#[84]⟩ : ByteArray)) ++ t375) ++ (⟨#[58]⟩ : ByteArray)) ++ t376) ++ (⟨#[58]⟩ : ByteArray)) ++ t377).size + 1) = False := eq_false (Nat.not_lt.2 c18)
            have c18n := c18
            try simp only [ByteArray.size_append, show (⟨#[45]⟩ : ByteArray).size = 1 from rfl, show (⟨#[84]⟩ : ByteArray).size = 1 from rfl, show (⟨#[58]⟩ : ByteArray).size = 1 from rfl, show (⟨#[90]⟩ : ByteArray).size = 1 from rfl] at c18n
            have c18m := eq_false (Nat.not_lt.2 c18n)
            obtain rfl := Option.some.inj H
            go_enter Tryd.func12, Tryd.ntmps12
            try go_wp2_with (first | ((with_reducible refine gate_dst (N := 1) rfl ?_); refine box_event ?hg (N := 1) ?hd (cs := #[.int .i64 a0_0, .int .i64 a0_1, .int .i64 a0_2, .int .i64 a0_3, .int .i64 a0_4, .int .i64 a0_5, .bool a0_6, .int .i64 a0_7]) (t := 24) ?hr ?_; (case hd => rfl); (case hg => rfl); (case hr => first | (go_simp; done) | (go_simp; rfl)); intro gb371 hg w19 hbox hb; have n0_ := Aside0.mk (below_step (by repeat (first | (with_reducible first | exact HB.out | apply below_alloc | apply pw_below_drewN | apply below_drew1) | exact HB.out)) hb); have n1_ := Aside0.mk (hbox); have n2_ := Aside0.mk ((by rw [hg]; exact (below_size (by repeat (first | (with_reducible first | exact HB.out | apply below_alloc | apply pw_below_drewN | apply below_drew1) | exact HB.out))) : w.heap.size ≤ gb371)); have n3_ := Aside0.mk ((by rw [hg]; exact (below_size (by repeat (first | (with_reducible first | exact HB.out | apply below_alloc | apply pw_below_drewN | apply below_drew1) | exact HB.out))) : w.heap.size ≤ gb371)); clear HB; have HB := n0_; have BK371 := n1_; have GW371 := n2_; have GE371 := n3_; clear n0_ n1_ n2_ n3_; clear hb hbox hg))
            have n0_ := Aside0.mk (blk_drew BK371.out)
            have n1_ := Aside0.mk (below_drew1 HB.out)
            clear BK371
            clear HB
            have BK371 := n0_
            have HB := n1_
            clear n0_ n1_
            refine start_ (n := 34) (S := fun w' => w'.cell? ⟨gb371, 0, none⟩ = some (.int .i64 a0_0) ∧ w'.cell? ⟨gb371, 1, none⟩ = some (.int .i64 a0_1) ∧ w'.cell? ⟨gb371, 2, none⟩ = some (.int .i64 a0_2) ∧ w'.cell? ⟨gb371, 3, none⟩ = some (.int .i64 a0_3) ∧ w'.cell? ⟨gb371, 4, none⟩ = some (.int .i64 a0_4) ∧ w'.cell? ⟨gb371, 5, none⟩ = some (.int .i64 a0_5) ∧ w'.cell? ⟨gb371, 6, none⟩ = some (.bool a0_6) ∧ w'.cell? ⟨gb371, 7, none⟩ = some (.int .i64 a0_7)) (ds := []) #[false, false, false, false, false, false, false, false, false, false, false, false, false, false, false, false, false, false, false, false, false, false, false, false, false, false, false, false, false, false, false, false, false, false] (by kernel_rfl) rfl rfl ⟨(blk_cell BK371.out 0).trans rfl, (blk_cell BK371.out 1).trans rfl, (blk_cell BK371.out 2).trans rfl, (blk_cell BK371.out 3).trans rfl, (blk_cell BK371.out 4).trans rfl, (blk_cell BK371.out 5).trans rfl, (blk_cell BK371.out 6).trans rfl, (blk_cell BK371.out 7).trans rfl⟩ (fun hHeld => ?_); refine with_tabW rubriclaw6_text.tab1 rubriclaw6_text.bits1 (fun HT_ HW_ => ?_)
            generalize w19.drew = w20 at BK371 HB hHeld ⊢
            refine pure_ (i := 0) (N := some 3) (v := ?_) (a' := ?_) #[true, false, false, false, false, false, false, false, false, false, false, false, false, false, false, false, false, false, false, false, false, false, false, false, false, false, false, false, false, false, false, false, false, false] rfl rfl (any_of HT_.out (by kernel_rfl)) (fun _ _ _ h => h) (Or.inl ⟨by rfl, ?_⟩) ?_ ?_
            rotate_left
            ·intro w'
             go_simp
             with_reducible rfl
            rotate_left
            ·simp only [Act.put, List.setIfInBounds_toArray, List.set_cons_zero, List.set_cons_succ, i64_w, i32_w]
             rfl
            refine pure_ (i := 4) (N := some 7) (v := ?_) (a' := ?_) #[true, false, false, false, true, false, false, false, false, false, false, false, false, false, false, false, false, false, false, false, false, false, false, false, false, false, false, false, false, false, false, false, false, false] rfl rfl (any_of HT_.out (by kernel_rfl)) (fun _ _ _ h => h) (Or.inl ⟨by rfl, ?_⟩) ?_ ?_
            rotate_left
            ·intro w'
             go_simp
             with_reducible rfl
            rotate_left
            ·simp only [Act.put, List.setIfInBounds_toArray, List.set_cons_zero, List.set_cons_succ, i64_w, i32_w]
             rfl
            refine pure_ (i := 9) (N := some 12) (v := ?_) (a' := ?_) #[true, false, false, false, true, false, false, false, false, true, false, false, false, false, false, false, false, false, false, false, false, false, false, false, false, false, false, false, false, false, false, false, false, false] rfl rfl (any_of HT_.out (by kernel_rfl)) (fun _ _ _ h => h) (Or.inl ⟨by rfl, ?_⟩) ?_ ?_
            rotate_left
            ·intro w'
             go_simp
             with_reducible rfl
            rotate_left
            ·simp only [Act.put, List.setIfInBounds_toArray, List.set_cons_zero, List.set_cons_succ, i64_w, i32_w]
             rfl
            refine pure_ (i := 14) (N := some 17) (v := ?_) (a' := ?_) #[true, false, false, false, true, false, false, false, false, true, false, false, false, false, true, false, false, false, false, false, false, false, false, false, false, false, false, false, false, false, false, false, false, false] rfl rfl (any_of HT_.out (by kernel_rfl)) (fun _ _ _ h => h) (Or.inl ⟨by rfl, ?_⟩) ?_ ?_
            rotate_left
            ·intro w'
             go_simp
             with_reducible rfl
            rotate_left
            ·simp only [Act.put, List.setIfInBounds_toArray, List.set_cons_zero, List.set_cons_succ, i64_w, i32_w]
             rfl
            refine pure_ (i := 20) (N := some 23) (v := ?_) (a' := ?_) #[true, false, false, false, true, false, false, false, false, true, false, false, false, false, true, false, false, false, false, false, true, false, false, false, false, false, false, false, false, false, false, false, false, false] rfl rfl (any_of HT_.out (by kernel_rfl)) (fun _ _ _ h => h) (Or.inl ⟨by rfl, ?_⟩) ?_ ?_
            rotate_left
            ·intro w'
             go_simp
             with_reducible rfl
            rotate_left
            ·simp only [Act.put, List.setIfInBounds_toArray, List.set_cons_zero, List.set_cons_succ, i64_w, i32_w]
             rfl
            refine pure_ (i := 27) (N := some 30) (v := ?_) (a' := ?_) #[true, false, false, false, true, false, false, false, false, true, false, false, false, false, true, false, false, false, false, false, true, false, false, false, false, false, false, true, false, false, false, false, false, false] rfl rfl (any_of HT_.out (by kernel_rfl)) (fun _ _ _ h => h) (Or.inl ⟨by rfl, ?_⟩) ?_ ?_
            rotate_left
            ·intro w'
             go_simp
             with_reducible rfl
            rotate_left
            ·simp only [Act.put, List.setIfInBounds_toArray, List.set_cons_zero, List.set_cons_succ, i64_w, i32_w]
             rfl
            refine take_ (i := 1) (N := some 4) (v := ?_) (a' := ?_) #[true, true, false, false, true, false, false, false, false, true, false, false, false, false, true, false, false, false, false, false, true, false, false, false, false, false, false, true, false, false, false, false, false, false] rfl rfl (take_ofW HT_.out HW_.out (by kernel_rfl)) (fun _ _ _ h => h) (Or.inl ⟨by rfl, ?_⟩) hHeld ?_ ?_
            rotate_left
            ·rintro w' ⟨s0, s1, s2, s3, s4, s5, s6, s7⟩
             go_simp
             with_reducible rfl
            rotate_left
            ·simp only [Act.put, List.setIfInBounds_toArray, List.set_cons_zero, List.set_cons_succ, i64_w, i32_w]
             rfl
            refine take_ (i := 5) (N := some 8) (v := ?_) (a' := ?_) #[true, true, false, false, true, true, false, false, false, true, false, false, false, false, true, false, false, false, false, false, true, false, false, false, false, false, false, true, false, false, false, false, false, false] rfl rfl (take_ofW HT_.out HW_.out (by kernel_rfl)) (fun _ _ _ h => h) (Or.inl ⟨by rfl, ?_⟩) hHeld ?_ ?_
            rotate_left
            ·rintro w' ⟨s0, s1, s2, s3, s4, s5, s6, s7⟩
             go_simp
             with_reducible rfl
            rotate_left
            ·simp only [Act.put, List.setIfInBounds_toArray, List.set_cons_zero, List.set_cons_succ, i64_w, i32_w]
             rfl
            refine take_ (i := 10) (N := some 13) (v := ?_) (a' := ?_) #[true, true, false, false, true, true, false, false, false, true, true, false, false, false, true, false, false, false, false, false, true, false, false, false, false, false, false, true, false, false, false, false, false, false] rfl rfl (take_ofW HT_.out HW_.out (by kernel_rfl)) (fun _ _ _ h => h) (Or.inl ⟨by rfl, ?_⟩) hHeld ?_ ?_
            rotate_left
            ·rintro w' ⟨s0, s1, s2, s3, s4, s5, s6, s7⟩
             go_simp
             with_reducible rfl
            rotate_left
            ·simp only [Act.put, List.setIfInBounds_toArray, List.set_cons_zero, List.set_cons_succ, i64_w, i32_w]
             rfl
            refine take_ (i := 15) (N := some 18) (v := ?_) (a' := ?_) #[true, true, false, false, true, true, false, false, false, true, true, false, false, false, true, true, false, false, false, false, true, false, false, false, false, false, false, true, false, false, false, false, false, false] rfl rfl (take_ofW HT_.out HW_.out (by kernel_rfl)) (fun _ _ _ h => h) (Or.inl ⟨by rfl, ?_⟩) hHeld ?_ ?_
            rotate_left
            ·rintro w' ⟨s0, s1, s2, s3, s4, s5, s6, s7⟩
             go_simp
             with_reducible rfl
            rotate_left
            ·simp only [Act.put, List.setIfInBounds_toArray, List.set_cons_zero, List.set_cons_succ, i64_w, i32_w]
             rfl
            refine pure_ (i := 16) (N := some 19) (v := ?_) (a' := ?_) #[true, true, false, false, true, true, false, false, false, true, true, false, false, false, true, true, true, false, false, false, true, false, false, false, false, false, false, true, false, false, false, false, false, false] rfl rfl (any_of HT_.out (by kernel_rfl)) (fun _ _ _ h => h) (Or.inl ⟨by rfl, ?_⟩) ?_ ?_
            rotate_left
            ·intro w'
             go_simp
             with_reducible rfl
            rotate_left
            ·simp only [Act.put, List.setIfInBounds_toArray, List.set_cons_zero, List.set_cons_succ, i64_w, i32_w]
             rfl
            refine take_ (i := 21) (N := some 24) (v := ?_) (a' := ?_) #[true, true, false, false, true, true, false, false, false, true, true, false, false, false, true, true, true, false, false, false, true, true, false, false, false, false, false, true, false, false, false, false, false, false] rfl rfl (take_ofW HT_.out HW_.out (by kernel_rfl)) (fun _ _ _ h => h) (Or.inl ⟨by rfl, ?_⟩) hHeld ?_ ?_
            rotate_left
            ·rintro w' ⟨s0, s1, s2, s3, s4, s5, s6, s7⟩
             go_simp
             with_reducible rfl
            rotate_left
            ·simp only [Act.put, List.setIfInBounds_toArray, List.set_cons_zero, List.set_cons_succ, i64_w, i32_w]
             rfl
            refine pure_ (i := 22) (N := some 25) (v := ?_) (a' := ?_) #[true, true, false, false, true, true, false, false, false, true, true, false, false, false, true, true, true, false, false, false, true, true, true, false, false, false, false, true, false, false, false, false, false, false] rfl rfl (any_of HT_.out (by kernel_rfl)) (fun _ _ _ h => h) (Or.inl ⟨by rfl, ?_⟩) ?_ ?_
            rotate_left
            ·intro w'
             go_simp
             with_reducible rfl
            rotate_left
            ·simp only [Act.put, List.setIfInBounds_toArray, List.set_cons_zero, List.set_cons_succ, i64_w, i32_w]
             rfl
            refine pure_ (i := 23) (N := some 26) (v := ?_) (a' := ?_) #[true, true, false, false, true, true, false, false, false, true, true, false, false, false, true, true, true, false, false, false, true, true, true, true, false, false, false, true, false, false, false, false, false, false] rfl rfl (any_of HT_.out (by kernel_rfl)) (fun _ _ _ h => h) (Or.inl ⟨by rfl, ?_⟩) ?_ ?_
            rotate_left
            ·intro w'
             go_simp
             with_reducible rfl
            rotate_left
            ·simp only [Act.put, List.setIfInBounds_toArray, List.set_cons_zero, List.set_cons_succ, i64_w, i32_w]
             rfl
            refine take_ (i := 28) (N := some 31) (v := ?_) (a' := ?_) #[true, true, false, false, true, true, false, false, false, true, true, false, false, false, true, true, true, false, false, false, true, true, true, true, false, false, false, true, true, false, false, false, false, false] rfl rfl (take_ofW HT_.out HW_.out (by kernel_rfl)) (fun _ _ _ h => h) (Or.inl ⟨by rfl, ?_⟩) hHeld ?_ ?_
            rotate_left
            ·rintro w' ⟨s0, s1, s2, s3, s4, s5, s6, s7⟩
             go_simp
             with_reducible rfl
            rotate_left
            ·simp only [Act.put, List.setIfInBounds_toArray, List.set_cons_zero, List.set_cons_succ, i64_w, i32_w]
             rfl
            refine pure_ (i := 29) (N := some 32) (v := ?_) (a' := ?_) #[true, true, false, false, true, true, false, false, false, true, true, false, false, false, true, true, true, false, false, false, true, true, true, true, false, false, false, true, true, true, false, false, false, false] rfl rfl (any_of HT_.out (by kernel_rfl)) (fun _ _ _ h => h) (Or.inl ⟨by rfl, ?_⟩) ?_ ?_
            rotate_left
            ·intro w'
             go_simp
             with_reducible rfl
            rotate_left
            ·simp only [Act.put, List.setIfInBounds_toArray, List.set_cons_zero, List.set_cons_succ, i64_w, i32_w]
             rfl
            refine one_ (i := 2) (N := some 5) #[true, true, true, false, true, true, false, false, false, true, true, false, false, false, true, true, true, false, false, false, true, true, true, true, false, false, false, true, true, true, false, false, false, false] rfl rfl (one_of HT_.out (by kernel_rfl)) (by decide) (fun K hK => ?_)
            refine goes_ Tryd.func37 (by kernel_rfl) rfl #[.int .i64 a0_1, .int .i64 4] (by rfl) rfl rfl (by (try simp only [List.map_toArray, List.map_cons, List.map_nil]); first | done | rfl | (simp only [List.length_drop, List.length_take]; rfl)) ?_
            with_reducible refine (rubriclaw6_decimal.calls k a0_1 4 t372 _ A2.out).mono ?_
            rintro e w21 ⟨rfl, hb⟩
            refine ⟨_, rfl, ?_⟩
            have n0_ := Aside0.mk (blk_below (S.b BK371.out) hb)
            have n1_ := Aside0.mk (below_step (by repeat (first | (with_reducible first | exact HB.out | apply below_alloc | apply pw_below_drewN | apply below_drew1 | refine below_set ?_ GE371.out) | exact HB.out)) hb)
            clear BK371
            clear HB
            have BK371 := n0_
            have HB := n1_
            clear n0_ n1_
            (try clear hb)
            (try clear hb2)
            (try clear hk)
            (try clear hi)
            refine hK.out _ _ ⟨(blk_cell BK371.out 0).trans rfl, (blk_cell BK371.out 1).trans rfl, (blk_cell BK371.out 2).trans rfl, (blk_cell BK371.out 3).trans rfl, (blk_cell BK371.out 4).trans rfl, (blk_cell BK371.out 5).trans rfl, (blk_cell BK371.out 6).trans rfl, (blk_cell BK371.out 7).trans rfl⟩ (fun hHeld => ?_)
            clear hK K
            refine norm_ (a' := ?_) ?_ ?_
            rotate_left
            ·show Act.put _ (some 5) _ = _
             simp only [Act.put, List.setIfInBounds_toArray, List.set_cons_zero, List.set_cons_succ, i64_w, i32_w]
             rfl
            refine pure_ (i := 3) (N := some 6) (v := ?_) (a' := ?_) #[true, true, true, true, true, true, false, false, false, true, true, false, false, false, true, true, true, false, false, false, true, true, true, true, false, false, false, true, true, true, false, false, false, false] rfl rfl (any_of HT_.out (by kernel_rfl)) (fun _ _ _ h => h) (Or.inl ⟨by rfl, ?_⟩) ?_ ?_
            rotate_left
            ·intro w'
             go_simp
             with_reducible rfl
            rotate_left
            ·simp only [Act.put, List.setIfInBounds_toArray, List.set_cons_zero, List.set_cons_succ, i64_w, i32_w]
             rfl
            refine one_ (i := 6) (N := some 9) #[true, true, true, true, true, true, true, false, false, true, true, false, false, false, true, true, true, false, false, false, true, true, true, true, false, false, false, true, true, true, false, false, false, false] rfl rfl (one_of HT_.out (by kernel_rfl)) (by decide) (fun K hK => ?_)
            refine goes_ Tryd.func37 (by kernel_rfl) rfl #[.int .i64 a0_2, .int .i64 2] (by rfl) rfl rfl (by (try simp only [List.map_toArray, List.map_cons, List.map_nil]); first | done | rfl | (simp only [List.length_drop, List.length_take]; rfl)) ?_
            with_reducible refine (rubriclaw6_decimal.calls k a0_2 2 t373 _ A4.out).mono ?_
            rintro e w22 ⟨rfl, hb⟩
            refine ⟨_, rfl, ?_⟩
            have n0_ := Aside0.mk (blk_below (S.b BK371.out) hb)
            have n1_ := Aside0.mk (below_step (by repeat (first | (with_reducible first | exact HB.out | apply below_alloc | apply pw_below_drewN | apply below_drew1 | refine below_set ?_ GE371.out) | exact HB.out)) hb)
            clear BK371
            clear HB
            have BK371 := n0_
            have HB := n1_
            clear n0_ n1_
            (try clear hb)
            (try clear hb2)
            (try clear hk)
            (try clear hi)
            refine hK.out _ _ ⟨(blk_cell BK371.out 0).trans rfl, (blk_cell BK371.out 1).trans rfl, (blk_cell BK371.out 2).trans rfl, (blk_cell BK371.out 3).trans rfl, (blk_cell BK371.out 4).trans rfl, (blk_cell BK371.out 5).trans rfl, (blk_cell BK371.out 6).trans rfl, (blk_cell BK371.out 7).trans rfl⟩ (fun hHeld => ?_)
            clear hK K
            refine norm_ (a' := ?_) ?_ ?_
            rotate_left
            ·show Act.put _ (some 9) _ = _
             simp only [Act.put, List.setIfInBounds_toArray, List.set_cons_zero, List.set_cons_succ, i64_w, i32_w]
             rfl
            refine pure_ (i := 7) (N := some 10) (v := ?_) (a' := ?_) #[true, true, true, true, true, true, true, true, false, true, true, false, false, false, true, true, true, false, false, false, true, true, true, true, false, false, false, true, true, true, false, false, false, false] rfl rfl (any_of HT_.out (by kernel_rfl)) (fun _ _ _ h => h) (Or.inl ⟨by rfl, ?_⟩) ?_ ?_
            rotate_left
            ·intro w'
             go_simp
             with_reducible rfl
            rotate_left
            ·simp only [Act.put, List.setIfInBounds_toArray, List.set_cons_zero, List.set_cons_succ, i64_w, i32_w]
             rfl
            refine pure_ (i := 8) (N := some 11) (v := ?_) (a' := ?_) #[true, true, true, true, true, true, true, true, true, true, true, false, false, false, true, true, true, false, false, false, true, true, true, true, false, false, false, true, true, true, false, false, false, false] rfl rfl (any_of HT_.out (by kernel_rfl)) (fun _ _ _ h => h) (Or.inl ⟨by rfl, ?_⟩) ?_ ?_
            rotate_left
            ·intro w'
             go_simp
             with_reducible rfl
            rotate_left
            ·simp only [Act.put, List.setIfInBounds_toArray, List.set_cons_zero, List.set_cons_succ, i64_w, i32_w]
             rfl
            refine one_ (i := 11) (N := some 14) #[true, true, true, true, true, true, true, true, true, true, true, true, false, false, true, true, true, false, false, false, true, true, true, true, false, false, false, true, true, true, false, false, false, false] rfl rfl (one_of HT_.out (by kernel_rfl)) (by decide) (fun K hK => ?_)
            refine goes_ Tryd.func37 (by kernel_rfl) rfl #[.int .i64 a0_3, .int .i64 2] (by rfl) rfl rfl (by (try simp only [List.map_toArray, List.map_cons, List.map_nil]); first | done | rfl | (simp only [List.length_drop, List.length_take]; rfl)) ?_
            with_reducible refine (rubriclaw6_decimal.calls k a0_3 2 t374 _ A7.out).mono ?_
            rintro e w23 ⟨rfl, hb⟩
            refine ⟨_, rfl, ?_⟩
            have n0_ := Aside0.mk (blk_below (S.b BK371.out) hb)
            have n1_ := Aside0.mk (below_step (by repeat (first | (with_reducible first | exact HB.out | apply below_alloc | apply pw_below_drewN | apply below_drew1 | refine below_set ?_ GE371.out) | exact HB.out)) hb)
            clear BK371
            clear HB
            have BK371 := n0_
            have HB := n1_
            clear n0_ n1_
            (try clear hb)
            (try clear hb2)
            (try clear hk)
            (try clear hi)
            refine hK.out _ _ ⟨(blk_cell BK371.out 0).trans rfl, (blk_cell BK371.out 1).trans rfl, (blk_cell BK371.out 2).trans rfl, (blk_cell BK371.out 3).trans rfl, (blk_cell BK371.out 4).trans rfl, (blk_cell BK371.out 5).trans rfl, (blk_cell BK371.out 6).trans rfl, (blk_cell BK371.out 7).trans rfl⟩ (fun hHeld => ?_)
            clear hK K
            refine norm_ (a' := ?_) ?_ ?_
            rotate_left
            ·show Act.put _ (some 14) _ = _
             simp only [Act.put, List.setIfInBounds_toArray, List.set_cons_zero, List.set_cons_succ, i64_w, i32_w]
             rfl
            refine pure_ (i := 12) (N := some 15) (v := ?_) (a' := ?_) #[true, true, true, true, true, true, true, true, true, true, true, true, true, false, true, true, true, false, false, false, true, true, true, true, false, false, false, true, true, true, false, false, false, false] rfl rfl (any_of HT_.out (by kernel_rfl)) (fun _ _ _ h => h) (Or.inl ⟨by rfl, ?_⟩) ?_ ?_
            rotate_left
            ·intro w'
             go_simp
             with_reducible rfl
            rotate_left
            ·simp only [Act.put, List.setIfInBounds_toArray, List.set_cons_zero, List.set_cons_succ, i64_w, i32_w]
             rfl
            refine pure_ (i := 13) (N := some 16) (v := ?_) (a' := ?_) #[true, true, true, true, true, true, true, true, true, true, true, true, true, true, true, true, true, false, false, false, true, true, true, true, false, false, false, true, true, true, false, false, false, false] rfl rfl (any_of HT_.out (by kernel_rfl)) (fun _ _ _ h => h) (Or.inl ⟨by rfl, ?_⟩) ?_ ?_
            rotate_left
            ·intro w'
             go_simp
             with_reducible rfl
            rotate_left
            ·simp only [Act.put, List.setIfInBounds_toArray, List.set_cons_zero, List.set_cons_succ, i64_w, i32_w]
             rfl
            refine one_ (i := 17) (N := some 20) #[true, true, true, true, true, true, true, true, true, true, true, true, true, true, true, true, true, true, false, false, true, true, true, true, false, false, false, true, true, true, false, false, false, false] rfl rfl (one_of HT_.out (by kernel_rfl)) (by decide) (fun K hK => ?_)
            refine goes_ Tryd.func37 (by kernel_rfl) rfl #[.int .i64 (wrap64 (Int.tdiv a0_4 3600)), .int .i64 2] (by rfl) rfl rfl (by (try simp only [List.map_toArray, List.map_cons, List.map_nil]); first | done | rfl | (simp only [List.length_drop, List.length_take]; rfl)) ?_
            with_reducible refine (rubriclaw6_decimal.calls k (wrap64 (Int.tdiv a0_4 3600)) 2 t375 _ A10.out).mono ?_
            rintro e w24 ⟨rfl, hb⟩
            refine ⟨_, rfl, ?_⟩
            have n0_ := Aside0.mk (blk_below (S.b BK371.out) hb)
            have n1_ := Aside0.mk (below_step (by repeat (first | (with_reducible first | exact HB.out | apply below_alloc | apply pw_below_drewN | apply below_drew1 | refine below_set ?_ GE371.out) | exact HB.out)) hb)
            clear BK371
            clear HB
            have BK371 := n0_
            have HB := n1_
            clear n0_ n1_
            (try clear hb)
            (try clear hb2)
            (try clear hk)
            (try clear hi)
            refine hK.out _ _ ⟨(blk_cell BK371.out 0).trans rfl, (blk_cell BK371.out 1).trans rfl, (blk_cell BK371.out 2).trans rfl, (blk_cell BK371.out 3).trans rfl, (blk_cell BK371.out 4).trans rfl, (blk_cell BK371.out 5).trans rfl, (blk_cell BK371.out 6).trans rfl, (blk_cell BK371.out 7).trans rfl⟩ (fun hHeld => ?_)
            clear hK K
            refine norm_ (a' := ?_) ?_ ?_
            rotate_left
            ·show Act.put _ (some 20) _ = _
             simp only [Act.put, List.setIfInBounds_toArray, List.set_cons_zero, List.set_cons_succ, i64_w, i32_w]
             rfl
            refine pure_ (i := 18) (N := some 21) (v := ?_) (a' := ?_) #[true, true, true, true, true, true, true, true, true, true, true, true, true, true, true, true, true, true, true, false, true, true, true, true, false, false, false, true, true, true, false, false, false, false] rfl rfl (any_of HT_.out (by kernel_rfl)) (fun _ _ _ h => h) (Or.inl ⟨by rfl, ?_⟩) ?_ ?_
            rotate_left
            ·intro w'
             go_simp
             with_reducible rfl
            rotate_left
            ·simp only [Act.put, List.setIfInBounds_toArray, List.set_cons_zero, List.set_cons_succ, i64_w, i32_w]
             rfl
            refine pure_ (i := 19) (N := some 22) (v := ?_) (a' := ?_) #[true, true, true, true, true, true, true, true, true, true, true, true, true, true, true, true, true, true, true, true, true, true, true, true, false, false, false, true, true, true, false, false, false, false] rfl rfl (any_of HT_.out (by kernel_rfl)) (fun _ _ _ h => h) (Or.inl ⟨by rfl, ?_⟩) ?_ ?_
            rotate_left
            ·intro w'
             go_simp
             with_reducible rfl
            rotate_left
            ·simp only [Act.put, List.setIfInBounds_toArray, List.set_cons_zero, List.set_cons_succ, i64_w, i32_w]
             rfl
            refine one_ (i := 24) (N := some 27) #[true, true, true, true, true, true, true, true, true, true, true, true, true, true, true, true, true, true, true, true, true, true, true, true, true, false, false, true, true, true, false, false, false, false] rfl rfl (one_of HT_.out (by kernel_rfl)) (by decide) (fun K hK => ?_)
            refine goes_ Tryd.func37 (by kernel_rfl) rfl #[.int .i64 (Int.tmod (wrap64 (Int.tdiv a0_4 60)) 60), .int .i64 2] (by rfl) rfl rfl (by (try simp only [List.map_toArray, List.map_cons, List.map_nil]); first | done | rfl | (simp only [List.length_drop, List.length_take]; rfl)) ?_
            with_reducible refine (rubriclaw6_decimal.calls k (Int.tmod (wrap64 (Int.tdiv a0_4 60)) 60) 2 t376 _ A13.out).mono ?_
            rintro e w25 ⟨rfl, hb⟩
            refine ⟨_, rfl, ?_⟩
            have n0_ := Aside0.mk (blk_below (S.b BK371.out) hb)
            have n1_ := Aside0.mk (below_step (by repeat (first | (with_reducible first | exact HB.out | apply below_alloc | apply pw_below_drewN | apply below_drew1 | refine below_set ?_ GE371.out) | exact HB.out)) hb)
            clear BK371
            clear HB
            have BK371 := n0_
            have HB := n1_
            clear n0_ n1_
            (try clear hb)
            (try clear hb2)
            (try clear hk)
            (try clear hi)
            refine hK.out _ _ ⟨(blk_cell BK371.out 0).trans rfl, (blk_cell BK371.out 1).trans rfl, (blk_cell BK371.out 2).trans rfl, (blk_cell BK371.out 3).trans rfl, (blk_cell BK371.out 4).trans rfl, (blk_cell BK371.out 5).trans rfl, (blk_cell BK371.out 6).trans rfl, (blk_cell BK371.out 7).trans rfl⟩ (fun hHeld => ?_)
            clear hK K
            refine norm_ (a' := ?_) ?_ ?_
            rotate_left
            ·show Act.put _ (some 27) _ = _
             simp only [Act.put, List.setIfInBounds_toArray, List.set_cons_zero, List.set_cons_succ, i64_w, i32_w]
             rfl
            refine pure_ (i := 25) (N := some 28) (v := ?_) (a' := ?_) #[true, true, true, true, true, true, true, true, true, true, true, true, true, true, true, true, true, true, true, true, true, true, true, true, true, true, false, true, true, true, false, false, false, false] rfl rfl (any_of HT_.out (by kernel_rfl)) (fun _ _ _ h => h) (Or.inl ⟨by rfl, ?_⟩) ?_ ?_
            rotate_left
            ·intro w'
             go_simp
             with_reducible rfl
            rotate_left
            ·simp only [Act.put, List.setIfInBounds_toArray, List.set_cons_zero, List.set_cons_succ, i64_w, i32_w]
             rfl
            refine pure_ (i := 26) (N := some 29) (v := ?_) (a' := ?_) #[true, true, true, true, true, true, true, true, true, true, true, true, true, true, true, true, true, true, true, true, true, true, true, true, true, true, true, true, true, true, false, false, false, false] rfl rfl (any_of HT_.out (by kernel_rfl)) (fun _ _ _ h => h) (Or.inl ⟨by rfl, ?_⟩) ?_ ?_
            rotate_left
            ·intro w'
             go_simp
             with_reducible rfl
            rotate_left
            ·simp only [Act.put, List.setIfInBounds_toArray, List.set_cons_zero, List.set_cons_succ, i64_w, i32_w]
             rfl
            refine one_ (i := 30) (N := some 33) #[true, true, true, true, true, true, true, true, true, true, true, true, true, true, true, true, true, true, true, true, true, true, true, true, true, true, true, true, true, true, true, false, false, false] rfl rfl (one_of HT_.out (by kernel_rfl)) (by decide) (fun K hK => ?_)
            refine goes_ Tryd.func37 (by kernel_rfl) rfl #[.int .i64 (Int.tmod a0_4 60), .int .i64 2] (by rfl) rfl rfl (by (try simp only [List.map_toArray, List.map_cons, List.map_nil]); first | done | rfl | (simp only [List.length_drop, List.length_take]; rfl)) ?_
            with_reducible refine (rubriclaw6_decimal.calls k (Int.tmod a0_4 60) 2 t377 _ A16.out).mono ?_
            rintro e w26 ⟨rfl, hb⟩
            refine ⟨_, rfl, ?_⟩
            have n0_ := Aside0.mk (blk_below (S.b BK371.out) hb)
            have n1_ := Aside0.mk (below_step (by repeat (first | (with_reducible first | exact HB.out | apply below_alloc | apply pw_below_drewN | apply below_drew1 | refine below_set ?_ GE371.out) | exact HB.out)) hb)
            clear BK371
            clear HB
            have BK371 := n0_
            have HB := n1_
            clear n0_ n1_
            (try clear hb)
            (try clear hb2)
            (try clear hk)
            (try clear hi)
            refine hK.out _ _ ⟨(blk_cell BK371.out 0).trans rfl, (blk_cell BK371.out 1).trans rfl, (blk_cell BK371.out 2).trans rfl, (blk_cell BK371.out 3).trans rfl, (blk_cell BK371.out 4).trans rfl, (blk_cell BK371.out 5).trans rfl, (blk_cell BK371.out 6).trans rfl, (blk_cell BK371.out 7).trans rfl⟩ (fun hHeld => ?_)
            clear hK K
            refine norm_ (a' := ?_) ?_ ?_
            rotate_left
            ·show Act.put _ (some 33) _ = _
             simp only [Act.put, List.setIfInBounds_toArray, List.set_cons_zero, List.set_cons_succ, i64_w, i32_w]
             rfl
            refine pure_ (i := 31) (N := some 34) (v := ?_) (a' := ?_) #[true, true, true, true, true, true, true, true, true, true, true, true, true, true, true, true, true, true, true, true, true, true, true, true, true, true, true, true, true, true, true, true, false, false] rfl rfl (any_of HT_.out (by kernel_rfl)) (fun _ _ _ h => h) (Or.inl ⟨by rfl, ?_⟩) ?_ ?_
            rotate_left
            ·intro w'
             go_simp
             with_reducible rfl
            rotate_left
            ·simp only [Act.put, List.setIfInBounds_toArray, List.set_cons_zero, List.set_cons_succ, i64_w, i32_w]
             rfl
            refine pure_ (i := 32) (N := some 35) (v := ?_) (a' := ?_) #[true, true, true, true, true, true, true, true, true, true, true, true, true, true, true, true, true, true, true, true, true, true, true, true, true, true, true, true, true, true, true, true, true, false] rfl rfl (any_of HT_.out (by kernel_rfl)) (fun _ _ _ h => h) (Or.inl ⟨by rfl, ?_⟩) ?_ ?_
            rotate_left
            ·intro w'
             go_simp
             with_reducible rfl
            rotate_left
            ·simp only [Act.put, List.setIfInBounds_toArray, List.set_cons_zero, List.set_cons_succ, i64_w, i32_w]
             rfl
            refine pure_ (i := 33) (N := some 2) (v := ?_) (a' := ?_) #[true, true, true, true, true, true, true, true, true, true, true, true, true, true, true, true, true, true, true, true, true, true, true, true, true, true, true, true, true, true, true, true, true, true] rfl rfl (any_of HT_.out (by kernel_rfl)) (fun _ _ _ h => h) (Or.inl ⟨by rfl, ?_⟩) ?_ ?_
            rotate_left
            ·intro w'
             go_simp
             with_reducible rfl
            rotate_left
            ·simp only [Act.put, List.setIfInBounds_toArray, List.set_cons_zero, List.set_cons_succ, i64_w, i32_w]
             rfl
            refine done_ (done_of HT_.out (by kernel_rfl)) ?_
            try go_wp2
            go_ret
            exact ⟨by first | rfl | (simp [errW_none, errW_some] <;> rfl) | (simp [*, errW_none, errW_some] <;> rfl), by repeat (first | (with_reducible first | exact HB.out | apply below_alloc | apply pw_below_drewN | apply below_drew1 | refine below_set ?_ GE371.out) | exact HB.out)⟩
           ·rw [if_neg c18] at H
            exact absurd H (by simp)
          ·rw [if_neg c17] at H
           exact absurd H (by simp)
         ·rw [if_neg c15] at H
          exact absurd H (by simp)
        ·rw [if_neg c14] at H
         exact absurd H (by simp)
       ·rw [if_neg c12] at H
        exact absurd H (by simp)
      ·rw [if_neg c11] at H
       exact absurd H (by simp)
     ·rw [if_neg c9] at H
      exact absurd H (by simp)
    ·rw [if_neg c8] at H
     exact absurd H (by simp)
   ·rw [if_neg c6] at H
    exact absurd H (by simp)
  ·rw [if_neg c5] at H
   exact absurd H (by simp)
 ·rw [if_neg c3] at H
  exact absurd H (by simp)

end Go.Proofs.YtehaonhgbmlmnaaDoor.Pr
