-- printed by wip/gprint.py (ours) out of the translation, by the kit's print program with given contracts
import Derived.Test.YtnafjabpkbahdaaPrx0
import Derived.Test.YtnafjabpkbahdaaPrx1
import Derived.Test.YtnafjabpkbahdaaPrx2
import Derived.Test.YtnafjabpkbahdaaPrx3
import Derived.Test.YtnafjabpkbahdaaPrx5
namespace Go.Proofs.Ytnafjabpkbahdaa.Pr
open Go.RowKit Go.Proofs.YtnafjabpkbahdaaW.PrintWords Go.Proofs.YtnafjabpkbahdaaW.PrintLast Go.Proofs.YtnafjabpkbahdaaW.PrintMore
attribute [local go_sem] max2_int min2_int max_two min_two max_three min_three max_four min_four   -- for this text's walks alone
set_option linter.unusedVariables false
set_option linter.unusedSimpArgs false

/-! ### rubriclaw5_DecForms: function 3 -/
mutual
def rubriclaw5_DecForms.j0 : Nat → List Int → List Int → Int → Bool → Bool → Option (Bool)
 | 0, _, _, _, _, _ => none
 | k + 1, x0, x1, x2, x3, x39 => if x39 = true then (some true) else (rubriclaw5_DecForms.l0 k x0 x1 x2 x3 (⟨#[]⟩ : ByteArray) (⟨#[]⟩ : ByteArray) (⟨#[]⟩ : ByteArray) 0)
def rubriclaw5_DecForms.l0 : Nat → List Int → List Int → Int → Bool → ByteArray → ByteArray → ByteArray → Int → Option (Bool)
 | 0, _, _, _, _, _, _, _, _ => none
 | k + 1, x0, x1, x2, x3, x9, x10, x11, x12 => if x12 < (x0.length : Int) then (if 0 ≤ x12 then ((some (([(48 + (Int.tmod (rd x0 x12) 10)) % 256] : List Int) : List Int)).bind fun y198 => (if x9.size + (strOfNums y198).size ≤ 9223372036854775807 then (rubriclaw5_DecForms.l0 k x0 x1 x2 x3 (x9 ++ (strOfNums y198)) x10 x11 (wrap64 (x12 + 1))) else (none))) else (none)) else (rubriclaw5_DecForms.l1 k x1 x2 x3 x9 x10 x11 0)
def rubriclaw5_DecForms.l1 : Nat → List Int → Int → Bool → ByteArray → ByteArray → ByteArray → Int → Option (Bool)
 | 0, _, _, _, _, _, _, _ => none
 | k + 1, x1, x2, x3, x9, x10, x11, x13 => if x13 < (x1.length : Int) then (if 0 ≤ x13 then ((some (([(48 + (Int.tmod (rd x1 x13) 10)) % 256] : List Int) : List Int)).bind fun y202 => (if x10.size + (strOfNums y202).size ≤ 9223372036854775807 then (rubriclaw5_DecForms.l1 k x1 x2 x3 x9 (x10 ++ (strOfNums y202)) x11 (wrap64 (x13 + 1))) else (none))) else (none)) else (rubriclaw5_DecForms.l2 k x1 x2 x3 x9 x10 x11 0)
def rubriclaw5_DecForms.l2 : Nat → List Int → Int → Bool → ByteArray → ByteArray → ByteArray → Int → Option (Bool)
 | 0, _, _, _, _, _, _, _ => none
 | k + 1, x1, x2, x3, x9, x10, x11, x14 => if x14 < x2 then (if x11.size + 1 ≤ 9223372036854775807 then (rubriclaw5_DecForms.l2 k x1 x2 x3 x9 x10 (x11 ++ (⟨#[48]⟩ : ByteArray)) (wrap64 (x14 + 1))) else (none)) else (if x3 = true then (rubriclaw5_DecForms.j4 k x1 x9 x10 x11 (⟨#[45]⟩ : ByteArray)) else (rubriclaw5_DecForms.j4 k x1 x9 x10 x11 (⟨#[43]⟩ : ByteArray)))
def rubriclaw5_DecForms.j4 : Nat → List Int → ByteArray → ByteArray → ByteArray → ByteArray → Option (Bool)
 | 0, _, _, _, _, _ => none
 | k + 1, x1, x9, x10, x11, x15 => if x15.size + 1 ≤ 9223372036854775807 then (if (x15 ++ (⟨#[48]⟩ : ByteArray)).size + x9.size ≤ 9223372036854775807 then (if ((x15 ++ (⟨#[48]⟩ : ByteArray)) ++ x9).size + 1 ≤ 9223372036854775807 then (if (((x15 ++ (⟨#[48]⟩ : ByteArray)) ++ x9) ++ (⟨#[46]⟩ : ByteArray)).size + x10.size ≤ 9223372036854775807 then ((dec_Parse.f k ((((x15 ++ (⟨#[48]⟩ : ByteArray)) ++ x9) ++ (⟨#[46]⟩ : ByteArray)) ++ x10)).bind fun bt205 => (if x15.size + x11.size ≤ 9223372036854775807 then (if (x15 ++ x11).size + 1 ≤ 9223372036854775807 then (if ((x15 ++ x11) ++ (⟨#[48]⟩ : ByteArray)).size + x9.size ≤ 9223372036854775807 then (if (((x15 ++ x11) ++ (⟨#[48]⟩ : ByteArray)) ++ x9).size + 1 ≤ 9223372036854775807 then (if ((((x15 ++ x11) ++ (⟨#[48]⟩ : ByteArray)) ++ x9) ++ (⟨#[46]⟩ : ByteArray)).size + x10.size ≤ 9223372036854775807 then (if (((((x15 ++ x11) ++ (⟨#[48]⟩ : ByteArray)) ++ x9) ++ (⟨#[46]⟩ : ByteArray)) ++ x10).size + x11.size ≤ 9223372036854775807 then ((dec_Parse.f k ((((((x15 ++ x11) ++ (⟨#[48]⟩ : ByteArray)) ++ x9) ++ (⟨#[46]⟩ : ByteArray)) ++ x10) ++ x11)).bind fun bt212 => (if ((x15 ++ (⟨#[48]⟩ : ByteArray)) ++ x9).size + x10.size ≤ 9223372036854775807 then ((dec_Parse.f k (((x15 ++ (⟨#[48]⟩ : ByteArray)) ++ x9) ++ x10)).bind fun bt219 => (if (wrap64 ((wrap64 (bt205.2.2.2 + bt212.2.2.2)) + bt219.2.2.2)) = 0 then ((dec_Cmp.f k bt205.1 bt205.2.1 bt205.2.2.1 bt212.1 bt212.2.1 bt212.2.2.1).bind fun t226 => (if t226 = 0 then ((G.dec_Dec_Text.f bt205.1 bt205.2.1 bt205.2.2.1).bind fun t227 => ((G.dec_Dec_Text.f bt212.1 bt212.2.1 bt212.2.2.1).bind fun t228 => (if t227.toList = t228.toList then ((dec_Dec_Total.f bt205.1 bt205.2.1 bt205.2.2.1).bind fun t229 => ((dec_Dec_Total.f bt212.1 bt212.2.1 bt212.2.2.1).bind fun t230 => (if t229 = t230 then ((dec_Dec_Fraction.f bt205.1 bt205.2.1 bt205.2.2.1).bind fun t231 => ((dec_Dec_Fraction.f bt212.1 bt212.2.1 bt212.2.2.1).bind fun t232 => (if t231 = t232 then (if (x1.length : Int) > 0 then ((dec_Dec_Fraction.f bt205.1 bt205.2.1 bt205.2.2.1).bind fun t233 => (some (decide (t233 ≤ (x1.length : Int))))) else ((dec_Cmp.f k bt205.1 bt205.2.1 bt205.2.2.1 bt219.1 bt219.2.1 bt219.2.2.1).bind fun t234 => (if t234 = 0 then ((dec_Dec_Fraction.f bt205.1 bt205.2.1 bt205.2.2.1).bind fun t235 => (some (decide (t235 ≤ (x1.length : Int))))) else (some false)))) else (some false)))) else (some false)))) else (some false)))) else (some false))) else (some false))) else (none))) else (none)) else (none)) else (none)) else (none)) else (none)) else (none))) else (none)) else (none)) else (none)) else (none)
end
def rubriclaw5_DecForms.f (k : Nat) (l0 : List Int) (l1 : List Int) (a2 : Int) (a3 : Bool) : Option (Bool) := (rubriclaw5_known.f k).bind fun t196 => (if t196 = true then (if (l0.length : Int) > 60 then (rubriclaw5_DecForms.j0 k l0 l1 a2 a3 true) else (if (l1.length : Int) > 60 then (rubriclaw5_DecForms.j0 k l0 l1 a2 a3 true) else (if a2 < 0 then (rubriclaw5_DecForms.j0 k l0 l1 a2 a3 true) else (rubriclaw5_DecForms.j0 k l0 l1 a2 a3 (decide (a2 > 60)))))) else (some false))
theorem rubriclaw5_DecForms.mono_l : ∀ k, (∀ y0 y1 y2 y3 y4, LeO (rubriclaw5_DecForms.j0 k y0 y1 y2 y3 y4) (rubriclaw5_DecForms.j0 (k + 1) y0 y1 y2 y3 y4)) ∧ (∀ y0 y1 y2 y3 y4 y5 y6 y7, LeO (rubriclaw5_DecForms.l0 k y0 y1 y2 y3 y4 y5 y6 y7) (rubriclaw5_DecForms.l0 (k + 1) y0 y1 y2 y3 y4 y5 y6 y7)) ∧ (∀ y0 y1 y2 y3 y4 y5 y6, LeO (rubriclaw5_DecForms.l1 k y0 y1 y2 y3 y4 y5 y6) (rubriclaw5_DecForms.l1 (k + 1) y0 y1 y2 y3 y4 y5 y6)) ∧ (∀ y0 y1 y2 y3 y4 y5 y6, LeO (rubriclaw5_DecForms.l2 k y0 y1 y2 y3 y4 y5 y6) (rubriclaw5_DecForms.l2 (k + 1) y0 y1 y2 y3 y4 y5 y6)) ∧ (∀ y0 y1 y2 y3 y4, LeO (rubriclaw5_DecForms.j4 k y0 y1 y2 y3 y4) (rubriclaw5_DecForms.j4 (k + 1) y0 y1 y2 y3 y4))
 | 0 => ⟨fun _ _ _ _ _ r h => by simp [rubriclaw5_DecForms.j0] at h, fun _ _ _ _ _ _ _ _ r h => by simp [rubriclaw5_DecForms.l0] at h, fun _ _ _ _ _ _ _ r h => by simp [rubriclaw5_DecForms.l1] at h, fun _ _ _ _ _ _ _ r h => by simp [rubriclaw5_DecForms.l2] at h, fun _ _ _ _ _ r h => by simp [rubriclaw5_DecForms.j4] at h⟩
 | k + 1 => by
  obtain ⟨ih0, ih1, ih2, ih3, ih4⟩ := rubriclaw5_DecForms.mono_l k
  refine ⟨?_, ?_, ?_, ?_, ?_⟩
  ·intro y0 y1 y2 y3 y4
   unfold rubriclaw5_DecForms.j0
   repeat' first
   | (with_reducible exact ih0 _ _ _ _ _)
   | (with_reducible exact ih1 _ _ _ _ _ _ _ _)
   | (with_reducible exact ih2 _ _ _ _ _ _ _)
   | (with_reducible exact ih3 _ _ _ _ _ _ _)
   | (with_reducible exact ih4 _ _ _ _ _)
   | (with_reducible exact dec_Cmp.mono _ _ _ _ _ _ _)
   | (with_reducible exact dec_Parse.mono _ _)
   | (with_reducible exact rubriclaw5_known.mono _)
   | (with_reducible exact LeO.refl _)
   | (with_reducible exact LeO.none _)
   | (with_reducible refine LeO.ite ?_ ?_)
   | (with_reducible refine LeO.bind ?_ (fun _ => ?_))
   | exact ih0 _ _ _ _ _
   | exact ih1 _ _ _ _ _ _ _ _
   | exact ih2 _ _ _ _ _ _ _
   | exact ih3 _ _ _ _ _ _ _
   | exact ih4 _ _ _ _ _
   | exact dec_Cmp.mono _ _ _ _ _ _ _
   | exact dec_Parse.mono _ _
   | exact rubriclaw5_known.mono _
   | exact LeO.none _
   | refine LeO.ite ?_ ?_
   | refine LeO.bind ?_ (fun _ => ?_)
  ·intro y0 y1 y2 y3 y4 y5 y6 y7
   unfold rubriclaw5_DecForms.l0
   repeat' first
   | (with_reducible exact ih0 _ _ _ _ _)
   | (with_reducible exact ih1 _ _ _ _ _ _ _ _)
   | (with_reducible exact ih2 _ _ _ _ _ _ _)
   | (with_reducible exact ih3 _ _ _ _ _ _ _)
   | (with_reducible exact ih4 _ _ _ _ _)
   | (with_reducible exact dec_Cmp.mono _ _ _ _ _ _ _)
   | (with_reducible exact dec_Parse.mono _ _)
   | (with_reducible exact rubriclaw5_known.mono _)
   | (with_reducible exact LeO.refl _)
   | (with_reducible exact LeO.none _)
   | (with_reducible refine LeO.ite ?_ ?_)
   | (with_reducible refine LeO.bind ?_ (fun _ => ?_))
   | exact ih0 _ _ _ _ _
   | exact ih1 _ _ _ _ _ _ _ _
   | exact ih2 _ _ _ _ _ _ _
   | exact ih3 _ _ _ _ _ _ _
   | exact ih4 _ _ _ _ _
   | exact dec_Cmp.mono _ _ _ _ _ _ _
   | exact dec_Parse.mono _ _
   | exact rubriclaw5_known.mono _
   | exact LeO.none _
   | refine LeO.ite ?_ ?_
   | refine LeO.bind ?_ (fun _ => ?_)
  ·intro y0 y1 y2 y3 y4 y5 y6
   unfold rubriclaw5_DecForms.l1
   repeat' first
   | (with_reducible exact ih0 _ _ _ _ _)
   | (with_reducible exact ih1 _ _ _ _ _ _ _ _)
   | (with_reducible exact ih2 _ _ _ _ _ _ _)
   | (with_reducible exact ih3 _ _ _ _ _ _ _)
   | (with_reducible exact ih4 _ _ _ _ _)
   | (with_reducible exact dec_Cmp.mono _ _ _ _ _ _ _)
   | (with_reducible exact dec_Parse.mono _ _)
   | (with_reducible exact rubriclaw5_known.mono _)
   | (with_reducible exact LeO.refl _)
   | (with_reducible exact LeO.none _)
   | (with_reducible refine LeO.ite ?_ ?_)
   | (with_reducible refine LeO.bind ?_ (fun _ => ?_))
   | exact ih0 _ _ _ _ _
   | exact ih1 _ _ _ _ _ _ _ _
   | exact ih2 _ _ _ _ _ _ _
   | exact ih3 _ _ _ _ _ _ _
   | exact ih4 _ _ _ _ _
   | exact dec_Cmp.mono _ _ _ _ _ _ _
   | exact dec_Parse.mono _ _
   | exact rubriclaw5_known.mono _
   | exact LeO.none _
   | refine LeO.ite ?_ ?_
   | refine LeO.bind ?_ (fun _ => ?_)
  ·intro y0 y1 y2 y3 y4 y5 y6
   unfold rubriclaw5_DecForms.l2
   repeat' first
   | (with_reducible exact ih0 _ _ _ _ _)
   | (with_reducible exact ih1 _ _ _ _ _ _ _ _)
   | (with_reducible exact ih2 _ _ _ _ _ _ _)
   | (with_reducible exact ih3 _ _ _ _ _ _ _)
   | (with_reducible exact ih4 _ _ _ _ _)
   | (with_reducible exact dec_Cmp.mono _ _ _ _ _ _ _)
   | (with_reducible exact dec_Parse.mono _ _)
   | (with_reducible exact rubriclaw5_known.mono _)
   | (with_reducible exact LeO.refl _)
   | (with_reducible exact LeO.none _)
   | (with_reducible refine LeO.ite ?_ ?_)
   | (with_reducible refine LeO.bind ?_ (fun _ => ?_))
   | exact ih0 _ _ _ _ _
   | exact ih1 _ _ _ _ _ _ _ _
   | exact ih2 _ _ _ _ _ _ _
   | exact ih3 _ _ _ _ _ _ _
   | exact ih4 _ _ _ _ _
   | exact dec_Cmp.mono _ _ _ _ _ _ _
   | exact dec_Parse.mono _ _
   | exact rubriclaw5_known.mono _
   | exact LeO.none _
   | refine LeO.ite ?_ ?_
   | refine LeO.bind ?_ (fun _ => ?_)
  ·intro y0 y1 y2 y3 y4
   unfold rubriclaw5_DecForms.j4
   repeat' first
   | (with_reducible exact ih0 _ _ _ _ _)
   | (with_reducible exact ih1 _ _ _ _ _ _ _ _)
   | (with_reducible exact ih2 _ _ _ _ _ _ _)
   | (with_reducible exact ih3 _ _ _ _ _ _ _)
   | (with_reducible exact ih4 _ _ _ _ _)
   | (with_reducible exact dec_Cmp.mono _ _ _ _ _ _ _)
   | (with_reducible exact dec_Parse.mono _ _)
   | (with_reducible exact rubriclaw5_known.mono _)
   | (with_reducible exact LeO.refl _)
   | (with_reducible exact LeO.none _)
   | (with_reducible refine LeO.ite ?_ ?_)
   | (with_reducible refine LeO.bind ?_ (fun _ => ?_))
   | exact ih0 _ _ _ _ _
   | exact ih1 _ _ _ _ _ _ _ _
   | exact ih2 _ _ _ _ _ _ _
   | exact ih3 _ _ _ _ _ _ _
   | exact ih4 _ _ _ _ _
   | exact dec_Cmp.mono _ _ _ _ _ _ _
   | exact dec_Parse.mono _ _
   | exact rubriclaw5_known.mono _
   | exact LeO.none _
   | refine LeO.ite ?_ ?_
   | refine LeO.bind ?_ (fun _ => ?_)
theorem rubriclaw5_DecForms.mono : ∀ a0 a1 a2 a3 k, LeO (rubriclaw5_DecForms.f k a0 a1 a2 a3) (rubriclaw5_DecForms.f (k + 1) a0 a1 a2 a3) := by
 intro a0 a1 a2 a3 k
 obtain ⟨ih0, ih1, ih2, ih3, ih4⟩ := rubriclaw5_DecForms.mono_l k
 unfold rubriclaw5_DecForms.f
 repeat' first
   | (with_reducible exact ih0 _ _ _ _ _)
   | (with_reducible exact ih1 _ _ _ _ _ _ _ _)
   | (with_reducible exact ih2 _ _ _ _ _ _ _)
   | (with_reducible exact ih3 _ _ _ _ _ _ _)
   | (with_reducible exact ih4 _ _ _ _ _)
   | (with_reducible exact dec_Cmp.mono _ _ _ _ _ _ _)
   | (with_reducible exact dec_Parse.mono _ _)
   | (with_reducible exact rubriclaw5_known.mono _)
   | (with_reducible exact LeO.refl _)
   | (with_reducible exact LeO.none _)
   | (with_reducible refine LeO.ite ?_ ?_)
   | (with_reducible refine LeO.bind ?_ (fun _ => ?_))
   | exact ih0 _ _ _ _ _
   | exact ih1 _ _ _ _ _ _ _ _
   | exact ih2 _ _ _ _ _ _ _
   | exact ih3 _ _ _ _ _ _ _
   | exact ih4 _ _ _ _ _
   | exact dec_Cmp.mono _ _ _ _ _ _ _
   | exact dec_Parse.mono _ _
   | exact rubriclaw5_known.mono _
   | exact LeO.none _
   | refine LeO.ite ?_ ?_
   | refine LeO.bind ?_ (fun _ => ?_)
def rubriclaw5_DecForms.T26 : Bool × List (List Nat × List Nat) := (true, [([], []), ([], []), ([0, 1], [0, 1]), ([], []), ([2, 3], [2, 3]), ([4], [4]), ([5], [5]), ([6], [6]), ([6], [6]), ([7, 8, 6, 6], [6, 7, 8]), ([9, 6], [6, 9]), ([6, 10], [6, 10]), ([11, 9], [11]), ([12], [12]), ([13, 12, 12], [12, 13]), ([12], [12]), ([15, 14, 12], [12, 15]), ([14, 16, 12], [12, 14, 16]), ([12, 17], [12, 17]), ([18, 16], [18]), ([19], [19]), ([20, 19, 19], [19, 20]), ([19], [19]), ([22, 21, 19], [19, 22]), ([21, 23, 19], [19, 21, 23]), ([19, 24], [19, 24]), ([25, 23], [25]), ([26], [26]), ([27, 26, 26], [26, 27]), ([26], [26]), ([29, 28, 26], [26, 29]), ([28, 30, 26], [26, 28, 30]), ([26, 31], [26, 31]), ([32, 30], [32]), ([33], [33]), ([34, 33], [33, 34]), ([35, 33], [33, 35]), ([36, 33, 33], [33, 36]), ([37], [37]), ([37], [37]), ([38, 39, 37, 37], [37, 38, 39]), ([40, 37], [37, 40]), ([37, 41, 33], [33, 37, 41]), ([33, 42], [33, 42]), ([43, 40], [43]), ([44], [44]), ([45, 44, 44], [44, 45]), ([44], [44]), ([47, 44], [44, 47]), ([46, 48, 44], [44, 46, 48]), ([44, 49], [44, 49]), ([50, 46, 0, 1, 2, 3, 4, 5, 6, 7, 8, 9, 10, 11, 12, 13, 14, 15, 16, 17, 18, 19, 20, 21, 22, 23, 24, 25, 26, 27, 28, 29, 30, 31, 32, 33, 34, 35, 36, 37, 38, 39, 40, 41, 42, 43, 44, 45, 46, 47, 48, 49, 50], [50])])
def rubriclaw5_DecForms.B26 : List Nat := [0, 0, 3, 0, 15, 31, 63, 127, 127, 511, 1023, 2047, 4095, 8191, 16383, 8191, 65535, 131071, 262143, 524287, 1048575, 2097151, 1048575, 8388607, 16777215, 33554431, 67108863, 134217727, 268435455, 134217727, 1073741823, 2147483647, 4294967295, 8589934591, 17179869183, 34359738367, 68719476735, 137438953471, 274877906943, 274877906943, 1099511627775, 2199023255551, 4398046511103, 8796093022207, 17592186044415, 35184372088831, 70368744177663, 35184372088831, 175921860444159, 562949953421311, 1125899906842623, 2251799813685247]
theorem rubriclaw5_DecForms.tab26 : rtab .any (opsOf Try.f3 26) = rubriclaw5_DecForms.T26 := by kernel_rfl
theorem rubriclaw5_DecForms.bits26 : waitsOk rubriclaw5_DecForms.T26.2 rubriclaw5_DecForms.B26 = true := by kernel_rfl
set_option maxHeartbeats 8000000 in
set_option maxRecDepth 100000 in
theorem rubriclaw5_DecForms.calls (k : Nat) (A0 : Option Addr) (c0 : Nat) (l0 : List Int) (A1 : Option Addr) (c1 : Nat) (l1 : List Int) (a2 : Int) (a3 : Bool) (r : Bool) (w : World) (hr0 : Kd.C (Kd.int .u8) w A0 l0.length l0) (hc0 : l0.length ≤ c0) (hr1 : Kd.C (Kd.int .u8) w A1 l1.length l1) (hc1 : l1.length ≤ c1) (h : rubriclaw5_DecForms.f k l0 l1 a2 a3 = some r) (hrt : r = true) :
  Calls Try.prog 3 #[.slice A0 l0.length c0, .slice A1 l1.length c1, .int .i64 a2, .bool a3] w fun e w' => e = .returned (.bool r) ∧ Below w.heap.size w w' := by
 have hu25 := Try.underlying25
 have HR0 := Aside0.mk hr0
 have HC0 := Aside0.mk hc0
 clear hr0 hc0
 have HR1 := Aside0.mk hr1
 have HC1 := Aside0.mk hc1
 clear hr1 hc1
 have HB := Aside0.mk (Below.refl w.heap.size w)
 have HRT := Aside0.mk hrt
 clear hrt
 have H : ((rubriclaw5_known.f k).bind fun t196 => (if t196 = true then (if (l0.length : Int) > 60 then (rubriclaw5_DecForms.j0 k l0 l1 a2 a3 true) else (if (l1.length : Int) > 60 then (rubriclaw5_DecForms.j0 k l0 l1 a2 a3 true) else (if a2 < 0 then (rubriclaw5_DecForms.j0 k l0 l1 a2 a3 true) else (rubriclaw5_DecForms.j0 k l0 l1 a2 a3 (decide (a2 > 60)))))) else (some false))) = some r := h
 clear h
 replace H := Option.bind_eq_some_iff.mp H
 obtain ⟨t196, A50, H⟩ := H
 replace H : (if t196 = true then (if (l0.length : Int) > 60 then (rubriclaw5_DecForms.j0 k l0 l1 a2 a3 true) else (if (l1.length : Int) > 60 then (rubriclaw5_DecForms.j0 k l0 l1 a2 a3 true) else (if a2 < 0 then (rubriclaw5_DecForms.j0 k l0 l1 a2 a3 true) else (rubriclaw5_DecForms.j0 k l0 l1 a2 a3 (decide (a2 > 60)))))) else (some false)) = some r := H
 have A5 := Aside0.mk A50
 clear A50
 by_cases c6 : t196 = true
 ·subst c6
  have H1 : (if (l0.length : Int) > 60 then (rubriclaw5_DecForms.j0 k l0 l1 a2 a3 true) else (if (l1.length : Int) > 60 then (rubriclaw5_DecForms.j0 k l0 l1 a2 a3 true) else (if a2 < 0 then (rubriclaw5_DecForms.j0 k l0 l1 a2 a3 true) else (rubriclaw5_DecForms.j0 k l0 l1 a2 a3 (decide (a2 > 60)))))) = some r := by rw [if_pos rfl] at H; exact H
  clear H
  have H := H1
  clear H1
  have HC7 := Aside0.mk H
  clear H
  go_enter Try.func3, Try.ntmps3
  go_upto_region 3 with (first | ((with_reducible refine gate_callee (f := 6) rfl ?_); refine goesL_ (some 22) rfl rfl Try.func6 (by kernel_rfl) rfl #[] rfl (by (try simp only [List.map_toArray, List.map_cons, List.map_nil]); first | done | rfl | (simp only [List.length_drop, List.length_take]; rfl)) ?_; (with_reducible refine (rubriclaw5_known.calls k  true _ A5.out rfl).mono ?_); rintro e w8 ⟨rfl, hb⟩; refine ⟨_, rfl, ?_⟩; have n0_ := Aside0.mk (below_step (by repeat (first | (with_reducible first | exact HB.out | apply below_alloc | apply pw_below_drewN | apply below_drew1) | exact HB.out)) hb); clear HB; have HB := n0_; clear n0_; (try clear hb); (try clear hb2); (try clear hk); (try clear hi)))
  (try simp only [Act.put, List.setIfInBounds_toArray, List.set_cons_zero, List.set_cons_succ])
  go_cut [39] (fun v39 wc => ∃ (kq : Nat) (x39_6 : Bool), v39 = .bool x39_6 ∧ Aside0 (rubriclaw5_DecForms.j0 kq l0 l1 a2 a3 x39_6 = some r) ∧ Aside0 (kq ≤ k) ∧ Aside0 (Below w.heap.size w wc))
  case first =>
   have H := HC7.out
   clear HC7
   by_cases c9 : (l0.length : Int) > 60
   ·rw [if_pos c9] at H
    have c9b0 : decide (60 < (l0.length : Int)) = true := decide_eq_true c9
    have c9b1 : decide (60 < l0.length) = true := decide_eq_true (by omega)
    clear c9
    (first | rw [c9b0] | (simp only [i64_w, i32_w]; rw [c9b0]) | skip)
    have H' := Aside0.mk H
    clear H
    go_wp2
    go_meet
    case rel => exact ⟨_, (true), (by first | rfl | (simp; done) | (simp [*]; done)), H', ⟨by first | omega | exact Nat.le_refl _⟩, ⟨by repeat (first | (with_reducible first | exact HB.out | apply below_alloc | apply pw_below_drewN | apply below_drew1) | exact HB.out)⟩⟩
   ·rw [if_neg c9] at H
    have c9b0 : decide (60 < (l0.length : Int)) = false := decide_eq_false c9
    have c9b1 : decide (60 < l0.length) = false := decide_eq_false (by omega)
    clear c9
    (first | rw [c9b0] | (simp only [i64_w, i32_w]; rw [c9b0]) | skip)
    by_cases c10 : (l1.length : Int) > 60
    ·rw [if_pos c10] at H
     have c10b0 : decide (60 < (l1.length : Int)) = true := decide_eq_true c10
     have c10b1 : decide (60 < l1.length) = true := decide_eq_true (by omega)
     clear c10
     have H' := Aside0.mk H
     clear H
     go_wp2
     go_meet
     case rel => exact ⟨_, (true), (by first | rfl | (simp; done) | (simp [*]; done)), H', ⟨by first | omega | exact Nat.le_refl _⟩, ⟨by repeat (first | (with_reducible first | exact HB.out | apply below_alloc | apply pw_below_drewN | apply below_drew1) | exact HB.out)⟩⟩
    ·rw [if_neg c10] at H
     have c10b0 : decide (60 < (l1.length : Int)) = false := decide_eq_false c10
     have c10b1 : decide (60 < l1.length) = false := decide_eq_false (by omega)
     clear c10
     by_cases c11 : a2 < 0
     ·rw [if_pos c11] at H
      have c11b0 : decide (a2 < 0) = true := decide_eq_true c11
      clear c11
      have H' := Aside0.mk H
      clear H
      go_wp2
      go_meet
      case rel => exact ⟨_, (true), (by first | rfl | (simp; done) | (simp [*]; done)), H', ⟨by first | omega | exact Nat.le_refl _⟩, ⟨by repeat (first | (with_reducible first | exact HB.out | apply below_alloc | apply pw_below_drewN | apply below_drew1) | exact HB.out)⟩⟩
     ·rw [if_neg c11] at H
      have c11b0 : decide (a2 < 0) = false := decide_eq_false c11
      clear c11
      have H' := Aside0.mk H
      clear H
      go_wp2
      go_meet
      case rel => exact ⟨_, (decide (a2 > 60)), (by first | rfl | (simp; done) | (simp [*]; done)), H', ⟨by first | omega | exact Nat.le_refl _⟩, ⟨by repeat (first | (with_reducible first | exact HB.out | apply below_alloc | apply pw_below_drewN | apply below_drew1) | exact HB.out)⟩⟩
  case rest =>
   clear HC7
   try clear c1
   try clear p2
   try clear c3
   try clear c6
   try clear c9
   try clear c9b0
   try clear c9b1
   try clear c10
   try clear c10b0
   try clear c10b1
   try clear c11
   try clear c11b0
   obtain ⟨kq, x39_6, rfl, HA, HJ6, HB⟩ := hcut
   cases kq with
   | zero => exact absurd HA.out (by simp [rubriclaw5_DecForms.j0])
   | succ kj6 =>
    have H := HA.out
    clear HA
    simp only [rubriclaw5_DecForms.j0] at H
    by_cases c12 : x39_6 = true
    ·subst c12
     have H1 : (some true) = some r := by rw [if_pos rfl] at H; exact H
     clear H
     have H := H1
     clear H1
     obtain rfl := Option.some.inj H
     go_wp2
     go_ret
     exact ⟨by first | rfl | (simp [errW_none, errW_some] <;> rfl) | (simp [*, errW_none, errW_some] <;> rfl), by repeat (first | (with_reducible first | exact HB.out | apply below_alloc | apply pw_below_drewN | apply below_drew1) | exact HB.out)⟩
    ·replace c12 := Bool.eq_false_iff.mpr c12
     subst c12
     have H1 : (rubriclaw5_DecForms.l0 kj6 l0 l1 a2 a3 (⟨#[]⟩ : ByteArray) (⟨#[]⟩ : ByteArray) (⟨#[]⟩ : ByteArray) 0) = some r := by rw [if_neg (show ¬ (false = true) by decide)] at H; exact H
     clear H
     have H := H1
     clear H1
     have H' := Aside0.mk H
     clear H
     go_wp2
     go_loopg [9, 12] kj6 (fun kq v9 v12 w' => ∃ (x9_2 : ByteArray) (x12_2 : Int), v9 = .string x9_2 ∧ v12 = .int .i64 x12_2 ∧ Aside0 (rubriclaw5_DecForms.l0 kq l0 l1 a2 a3 x9_2 (⟨#[]⟩ : ByteArray) (⟨#[]⟩ : ByteArray) x12_2 = some r) ∧ Aside0 (kq ≤ kj6) ∧ Aside0 (Below w.heap.size w w'))
     case atStart => exact ⟨((⟨#[]⟩ : ByteArray)), (0), (by first | rfl | (simp; done) | (simp [*]; done)), (by first | rfl | (simp; done) | (simp [*]; done)), H', ⟨Nat.le_refl _⟩, ⟨by repeat (first | (with_reducible first | exact HB.out | apply below_alloc | apply pw_below_drewN | apply below_drew1) | exact HB.out)⟩⟩
     case round =>
      clear H'
      try clear c1
      try clear p2
      try clear c3
      try clear c6
      try clear c9
      try clear c9b0
      try clear c9b1
      try clear c10
      try clear c10b0
      try clear c10b1
      try clear c11
      try clear c11b0
      try clear c12
      try clear p2
      obtain ⟨x9_2, x12_2, rfl, rfl, HA, HK2, HB⟩ := hrel
      cases gk with
      | zero => exact absurd HA.out (by simp [rubriclaw5_DecForms.l0])
      | succ k2 =>
       have H := HA.out
       clear HA
       simp only [rubriclaw5_DecForms.l0] at H
       by_cases c13 : x12_2 < (l0.length : Int)
       ·rw [if_pos c13] at H
        have c13b0 : decide (x12_2 < (l0.length : Int)) = true := decide_eq_true c13
        clear c13
        by_cases c14 : 0 ≤ x12_2
        ·rw [if_pos c14] at H
         have c14b0 : decide (0 ≤ x12_2) = true := decide_eq_true c14
         clear c14
         obtain ⟨y198, hy198⟩ : ∃ y_ : List Int, y_ = (([(48 + (Int.tmod (rd l0 x12_2) 10)) % 256] : List Int)) := ⟨_, rfl⟩
         replace H : (if x9_2.size + (strOfNums y198).size ≤ 9223372036854775807 then (rubriclaw5_DecForms.l0 k2 l0 l1 a2 a3 (x9_2 ++ (strOfNums y198)) (⟨#[]⟩ : ByteArray) (⟨#[]⟩ : ByteArray) (wrap64 (x12_2 + 1))) else (none)) = some r := by first | (rw [hy198]; with_reducible exact H) | (have H2_ := (Option.bind_some _ _).symm.trans H; rw [hy198]; with_reducible exact H2_) | (have H2_ := (Option.bind_some _ _).symm.trans H; with_reducible exact H2_) | with_reducible exact H | (rw [hy198]; exact H) | exact H
         have Ny198 := Aside0.mk hy198
         clear hy198
         by_cases c15 : x9_2.size + (strOfNums y198).size ≤ 9223372036854775807
         ·rw [if_pos c15] at H
          have c15b0 := eq_true c15
          have c15b1 : decide (x9_2.size + (strOfNums y198).size ≤ 9223372036854775807) = true := decide_eq_true c15
          try have c15b2 : (9223372036854775807 < x9_2.size + (strOfNums y198).size) = False := eq_false (Nat.not_lt.2 c15)
          have H' := Aside0.mk H
          clear H
          have p197 : 0 ≤ (x12_2 : Int) := of_decide_eq_true (by first | (with_reducible assumption) | assumption)
          have q197 : x12_2 < (l0.length : Int) := of_decide_eq_true (by first | (with_reducible assumption) | assumption)
          obtain ⟨ad197, e197, hx197_0⟩ := Kd.at_int HR0.out x12_2 p197 q197
          cases e197
          replace hx197_0 := (HB.out.cell (World.block_lt_of_cell? w _ hx197_0)).trans hx197_0
          replace p197 := eq_true p197
          replace q197 := eq_true q197
          go_wp2_with (first | ((with_reducible refine gate_dst (N := 53) rfl ?_); (try (refine gate_guard (by rfl) ?_; dsimp only)); refine Kd.R_lit (Kd.int .u8) _ 5 ?hg (N := 53) ?hd (xs := ([(48 + (Int.tmod (rd l0 x12_2) 10)) % 256] : List Int)) (inner := [.int .u8 ((48 + (Int.tmod (rd l0 x12_2) 10)) % 256)]) (ok := fun _ => True) (okp := fun _ => True) ?hr ?hp (fun _ hk => hk) trivial (Below.refl _ _) (Nat.le_refl _) (by simp) ?_; (case hd => rfl); (case hg => rfl); (case hr => first | (go_simp; done) | (go_simp; rfl)); (case hp => exact (Reps.one (show Kd.M (Kd.int .u8) _ _ _ ((48 + (Int.tmod (rd l0 x12_2) 10)) % 256) [.int .u8 ((48 + (Int.tmod (rd l0 x12_2) 10)) % 256)] from rfl) (Reps.none _ _))); intro v199 w16 ho17 hb hg_ hnew_; clear hg_ hnew_; (first | rw [← Ny198.out] at ho17 | (simp only [Int.reduceToNat] at ho17; rw [← Ny198.out] at ho17)); have n0_ := Aside0.mk (Kd.R_lower ho17 (below_size (by repeat (first | (with_reducible first | exact HB.out | apply below_alloc | apply pw_below_drewN | apply below_drew1) | exact HB.out)))); have n1_ := Aside0.mk (below_step (by repeat (first | (with_reducible first | exact HB.out | apply below_alloc | apply pw_below_drewN | apply below_drew1) | exact HB.out)) hb); clear HB; have HO200 := n0_; have HB := n1_; clear n0_ n1_; clear hb ho17; have hcv18 := own_string (P := Try.prog) Try.underlying22 Try.underlying5 Try.underlying9 (Kd.own_of_R HO200.out)))
          go_roundg k2
          case measure => have := HJ6.out; have := HK2.out; omega
          case rel => exact ⟨(x9_2 ++ (strOfNums y198)), (wrap64 (x12_2 + 1)), (by first | rfl | (simp; done) | (simp [*]; done)), (by first | rfl | (simp; done) | (simp [*]; done)), H', ⟨by have := HJ6.out; have := HK2.out; omega⟩, ⟨by repeat (first | (with_reducible first | exact HB.out | apply below_alloc | apply pw_below_drewN | apply below_drew1) | exact HB.out)⟩⟩
         ·rw [if_neg c15] at H
          exact absurd H (by simp)
        ·rw [if_neg c14] at H
         exact absurd H (by simp)
       ·rw [if_neg c13] at H
        have c13b0 : decide (x12_2 < (l0.length : Int)) = false := decide_eq_false c13
        clear c13
        have H' := Aside0.mk H
        clear H
        go_wp2
        go_loopg [10, 13] k2 (fun kq v10 v13 w' => ∃ (x10_3 : ByteArray) (x13_3 : Int), v10 = .string x10_3 ∧ v13 = .int .i64 x13_3 ∧ Aside0 (rubriclaw5_DecForms.l1 kq l1 a2 a3 x9_2 x10_3 (⟨#[]⟩ : ByteArray) x13_3 = some r) ∧ Aside0 (kq ≤ k2) ∧ Aside0 (Below w.heap.size w w'))
        case atStart => exact ⟨((⟨#[]⟩ : ByteArray)), (0), (by first | rfl | (simp; done) | (simp [*]; done)), (by first | rfl | (simp; done) | (simp [*]; done)), H', ⟨Nat.le_refl _⟩, ⟨by repeat (first | (with_reducible first | exact HB.out | apply below_alloc | apply pw_below_drewN | apply below_drew1) | exact HB.out)⟩⟩
        case round =>
         clear H'
         try clear c1
         try clear p1
         try clear q1
         try clear hx1
         try clear hcv1
         try clear p2
         try clear c3
         try clear c6
         try clear p6
         try clear c9
         try clear c9b0
         try clear c9b1
         try clear c10
         try clear c10b0
         try clear c10b1
         try clear c11
         try clear c11b0
         try clear c12
         try clear c13
         try clear c13b0
         try clear c14
         try clear c14b0
         try clear c15
         try clear c15b0
         try clear c15b1
         try clear c15b2
         try clear hcv18
         try clear hx197_0
         try clear p197
         try clear p2
         try clear q197
         obtain ⟨x10_3, x13_3, rfl, rfl, HA, HK3, HB⟩ := hrel
         cases gk with
         | zero => exact absurd HA.out (by simp [rubriclaw5_DecForms.l1])
         | succ k3 =>
          have H := HA.out
          clear HA
          simp only [rubriclaw5_DecForms.l1] at H
          by_cases c19 : x13_3 < (l1.length : Int)
          ·rw [if_pos c19] at H
           have c19b0 : decide (x13_3 < (l1.length : Int)) = true := decide_eq_true c19
           clear c19
           by_cases c20 : 0 ≤ x13_3
           ·rw [if_pos c20] at H
            have c20b0 : decide (0 ≤ x13_3) = true := decide_eq_true c20
            clear c20
            obtain ⟨y202, hy202⟩ : ∃ y_ : List Int, y_ = (([(48 + (Int.tmod (rd l1 x13_3) 10)) % 256] : List Int)) := ⟨_, rfl⟩
            replace H : (if x10_3.size + (strOfNums y202).size ≤ 9223372036854775807 then (rubriclaw5_DecForms.l1 k3 l1 a2 a3 x9_2 (x10_3 ++ (strOfNums y202)) (⟨#[]⟩ : ByteArray) (wrap64 (x13_3 + 1))) else (none)) = some r := by first | (rw [hy202]; with_reducible exact H) | (have H2_ := (Option.bind_some _ _).symm.trans H; rw [hy202]; with_reducible exact H2_) | (have H2_ := (Option.bind_some _ _).symm.trans H; with_reducible exact H2_) | with_reducible exact H | (rw [hy202]; exact H) | exact H
            have Ny202 := Aside0.mk hy202
            clear hy202
            by_cases c21 : x10_3.size + (strOfNums y202).size ≤ 9223372036854775807
            ·rw [if_pos c21] at H
             have c21b0 := eq_true c21
             have c21b1 : decide (x10_3.size + (strOfNums y202).size ≤ 9223372036854775807) = true := decide_eq_true c21
             try have c21b2 : (9223372036854775807 < x10_3.size + (strOfNums y202).size) = False := eq_false (Nat.not_lt.2 c21)
             have H' := Aside0.mk H
             clear H
             have p201 : 0 ≤ (x13_3 : Int) := of_decide_eq_true (by first | (with_reducible assumption) | assumption)
             have q201 : x13_3 < (l1.length : Int) := of_decide_eq_true (by first | (with_reducible assumption) | assumption)
             obtain ⟨ad201, e201, hx201_0⟩ := Kd.at_int HR1.out x13_3 p201 q201
             cases e201
             replace hx201_0 := (HB.out.cell (World.block_lt_of_cell? w _ hx201_0)).trans hx201_0
             replace p201 := eq_true p201
             replace q201 := eq_true q201
             go_wp2_with (first | ((with_reducible refine gate_dst (N := 69) rfl ?_); (try (refine gate_guard (by rfl) ?_; dsimp only)); refine Kd.R_lit (Kd.int .u8) _ 5 ?hg (N := 69) ?hd (xs := ([(48 + (Int.tmod (rd l1 x13_3) 10)) % 256] : List Int)) (inner := [.int .u8 ((48 + (Int.tmod (rd l1 x13_3) 10)) % 256)]) (ok := fun _ => True) (okp := fun _ => True) ?hr ?hp (fun _ hk => hk) trivial (Below.refl _ _) (Nat.le_refl _) (by simp) ?_; (case hd => rfl); (case hg => rfl); (case hr => first | (go_simp; done) | (go_simp; rfl)); (case hp => exact (Reps.one (show Kd.M (Kd.int .u8) _ _ _ ((48 + (Int.tmod (rd l1 x13_3) 10)) % 256) [.int .u8 ((48 + (Int.tmod (rd l1 x13_3) 10)) % 256)] from rfl) (Reps.none _ _))); intro v203 w22 ho23 hb hg_ hnew_; clear hg_ hnew_; (first | rw [← Ny202.out] at ho23 | (simp only [Int.reduceToNat] at ho23; rw [← Ny202.out] at ho23)); have n0_ := Aside0.mk (Kd.R_lower ho23 (below_size (by repeat (first | (with_reducible first | exact HB.out | apply below_alloc | apply pw_below_drewN | apply below_drew1) | exact HB.out)))); have n1_ := Aside0.mk (below_step (by repeat (first | (with_reducible first | exact HB.out | apply below_alloc | apply pw_below_drewN | apply below_drew1) | exact HB.out)) hb); clear HB; have HO204 := n0_; have HB := n1_; clear n0_ n1_; clear hb ho23; have hcv24 := own_string (P := Try.prog) Try.underlying22 Try.underlying5 Try.underlying9 (Kd.own_of_R HO204.out)))
             go_roundg k3
             case measure => have := HJ6.out; have := HK2.out; have := HK3.out; omega
             case rel => exact ⟨(x10_3 ++ (strOfNums y202)), (wrap64 (x13_3 + 1)), (by first | rfl | (simp; done) | (simp [*]; done)), (by first | rfl | (simp; done) | (simp [*]; done)), H', ⟨by have := HJ6.out; have := HK2.out; have := HK3.out; omega⟩, ⟨by repeat (first | (with_reducible first | exact HB.out | apply below_alloc | apply pw_below_drewN | apply below_drew1) | exact HB.out)⟩⟩
            ·rw [if_neg c21] at H
             exact absurd H (by simp)
           ·rw [if_neg c20] at H
            exact absurd H (by simp)
          ·rw [if_neg c19] at H
           have c19b0 : decide (x13_3 < (l1.length : Int)) = false := decide_eq_false c19
           clear c19
           have H' := Aside0.mk H
           clear H
           go_wp2
           go_loopg [11, 14] k3 (fun kq v11 v14 w' => ∃ (x11_4 : ByteArray) (x14_4 : Int), v11 = .string x11_4 ∧ v14 = .int .i64 x14_4 ∧ Aside0 (rubriclaw5_DecForms.l2 kq l1 a2 a3 x9_2 x10_3 x11_4 x14_4 = some r) ∧ Aside0 (kq ≤ k3) ∧ Aside0 (Below w.heap.size w w'))
           case atStart => exact ⟨((⟨#[]⟩ : ByteArray)), (0), (by first | rfl | (simp; done) | (simp [*]; done)), (by first | rfl | (simp; done) | (simp [*]; done)), H', ⟨Nat.le_refl _⟩, ⟨by repeat (first | (with_reducible first | exact HB.out | apply below_alloc | apply pw_below_drewN | apply below_drew1) | exact HB.out)⟩⟩
           case round =>
            clear H'
            try clear c1
            try clear p1
            try clear q1
            try clear hx1
            try clear hcv1
            try clear c2
            try clear p2
            try clear q2
            try clear hx2
            try clear hcv2
            try clear c3
            try clear c6
            try clear p6
            try clear c9
            try clear c9b0
            try clear c9b1
            try clear c10
            try clear c10b0
            try clear c10b1
            try clear c11
            try clear c11b0
            try clear c12
            try clear c13
            try clear c13b0
            try clear c14
            try clear c14b0
            try clear c15
            try clear c15b0
            try clear c15b1
            try clear c15b2
            try clear hcv18
            try clear c19
            try clear c19b0
            try clear p19
            try clear q19
            try clear hx19
            try clear c20
            try clear c20b0
            try clear p20
            try clear q20
            try clear hx20
            try clear c21
            try clear c21b0
            try clear c21b1
            try clear c21b2
            try clear hcv24
            try clear hx197_0
            try clear hx201_0
            try clear p1
            try clear p197
            try clear p2
            try clear p201
            try clear p6
            try clear q1
            try clear q197
            try clear q201
            obtain ⟨x11_4, x14_4, rfl, rfl, HA, HK4, HB⟩ := hrel
            cases gk with
            | zero => exact absurd HA.out (by simp [rubriclaw5_DecForms.l2])
            | succ k4 =>
             have H := HA.out
             clear HA
             simp only [rubriclaw5_DecForms.l2] at H
             by_cases c25 : x14_4 < a2
             ·rw [if_pos c25] at H
              have c25b0 : decide (x14_4 < a2) = true := decide_eq_true c25
              clear c25
              by_cases c26 : x11_4.size + 1 ≤ 9223372036854775807
              ·rw [if_pos c26] at H
               have c26b0 := eq_true c26
               have c26b1 : decide (x11_4.size + 1 ≤ 9223372036854775807) = true := decide_eq_true c26
               try have c26b2 : (9223372036854775807 < x11_4.size + 1) = False := eq_false (Nat.not_lt.2 c26)
               have H' := Aside0.mk H
               clear H
               go_wp2
               go_roundg k4
               case measure => have := HJ6.out; have := HK2.out; have := HK3.out; have := HK4.out; omega
               case rel => exact ⟨(x11_4 ++ (⟨#[48]⟩ : ByteArray)), (wrap64 (x14_4 + 1)), (by first | rfl | (simp; done) | (simp [*]; done)), (by first | rfl | (simp; done) | (simp [*]; done)), H', ⟨by have := HJ6.out; have := HK2.out; have := HK3.out; have := HK4.out; omega⟩, ⟨by repeat (first | (with_reducible first | exact HB.out | apply below_alloc | apply pw_below_drewN | apply below_drew1) | exact HB.out)⟩⟩
              ·rw [if_neg c26] at H
               exact absurd H (by simp)
             ·rw [if_neg c25] at H
              have c25b0 : decide (x14_4 < a2) = false := decide_eq_false c25
              clear c25
              have HC27 := Aside0.mk H
              clear H
              go_upto_if 79 with (fail)
              go_cut [15] (fun v15 wc => ∃ (kq : Nat) (x15_26 : ByteArray), v15 = .string x15_26 ∧ Aside0 (rubriclaw5_DecForms.j4 kq l1 x9_2 x10_3 x11_4 x15_26 = some r) ∧ Aside0 (kq ≤ k4) ∧ Aside0 (Below w.heap.size w wc))
              case first =>
               have H := HC27.out
               clear HC27
               by_cases c28 : a3 = true
               ·subst c28
                have H1 : (rubriclaw5_DecForms.j4 k4 l1 x9_2 x10_3 x11_4 (⟨#[45]⟩ : ByteArray)) = some r := by rw [if_pos rfl] at H; exact H
                clear H
                have H := H1
                clear H1
                have H' := Aside0.mk H
                clear H
                go_wp2
                go_meet
                case rel => exact ⟨_, ((⟨#[45]⟩ : ByteArray)), (by first | rfl | (simp; done) | (simp [*]; done)), H', ⟨by have := HJ6.out; have := HK2.out; have := HK3.out; have := HK4.out; first | omega | exact Nat.le_refl _⟩, ⟨by repeat (first | (with_reducible first | exact HB.out | apply below_alloc | apply pw_below_drewN | apply below_drew1) | exact HB.out)⟩⟩
               ·replace c28 := Bool.eq_false_iff.mpr c28
                subst c28
                have H1 : (rubriclaw5_DecForms.j4 k4 l1 x9_2 x10_3 x11_4 (⟨#[43]⟩ : ByteArray)) = some r := by rw [if_neg (show ¬ (false = true) by decide)] at H; exact H
                clear H
                have H := H1
                clear H1
                have H' := Aside0.mk H
                clear H
                go_wp2
                go_meet
                case rel => exact ⟨_, ((⟨#[43]⟩ : ByteArray)), (by first | rfl | (simp; done) | (simp [*]; done)), H', ⟨by have := HJ6.out; have := HK2.out; have := HK3.out; have := HK4.out; first | omega | exact Nat.le_refl _⟩, ⟨by repeat (first | (with_reducible first | exact HB.out | apply below_alloc | apply pw_below_drewN | apply below_drew1) | exact HB.out)⟩⟩
              case rest =>
               clear HC27
               try clear c1
               try clear p1
               try clear q1
               try clear hx1
               try clear hcv1
               try clear c2
               try clear p2
               try clear q2
               try clear hx2
               try clear hcv2
               try clear c3
               try clear c6
               try clear p6
               try clear c9
               try clear c9b0
               try clear c9b1
               try clear c10
               try clear c10b0
               try clear c10b1
               try clear c11
               try clear c11b0
               try clear c12
               try clear c13
               try clear c13b0
               try clear c14
               try clear c14b0
               try clear c15
               try clear c15b0
               try clear c15b1
               try clear c15b2
               try clear hcv18
               try clear c19
               try clear c19b0
               try clear p19
               try clear q19
               try clear hx19
               try clear c20
               try clear c20b0
               try clear p20
               try clear q20
               try clear hx20
               try clear c21
               try clear c21b0
               try clear c21b1
               try clear c21b2
               try clear hcv24
               try clear c25
               try clear c25b0
               try clear c26
               try clear c26b0
               try clear c26b1
               try clear c26b2
               try clear c28
               try clear hx197_0
               try clear hx201_0
               try clear p1
               try clear p19
               try clear p197
               try clear p2
               try clear p20
               try clear p201
               try clear p6
               try clear q1
               try clear q19
               try clear q197
               try clear q2
               try clear q20
               try clear q201
               obtain ⟨kq, x15_26, rfl, HA, HJ26, HB⟩ := hcut
               cases kq with
               | zero => exact absurd HA.out (by simp [rubriclaw5_DecForms.j4])
               | succ kj26 =>
                have H := HA.out
                clear HA
                simp only [rubriclaw5_DecForms.j4] at H
                by_cases c29 : x15_26.size + 1 ≤ 9223372036854775807
                ·rw [if_pos c29] at H
                 have c29b0 := eq_true c29
                 have c29b1 : decide (x15_26.size + 1 ≤ 9223372036854775807) = true := decide_eq_true c29
                 try have c29b2 : (9223372036854775807 < x15_26.size + 1) = False := eq_false (Nat.not_lt.2 c29)
                 by_cases c30 : (x15_26 ++ (⟨#[48]⟩ : ByteArray)).size + x9_2.size ≤ 9223372036854775807
                 ·rw [if_pos c30] at H
                  have c30b0 := eq_true c30
                  have c30b1 : decide ((x15_26 ++ (⟨#[48]⟩ : ByteArray)).size + x9_2.size ≤ 9223372036854775807) = true := decide_eq_true c30
                  try have c30b2 : (9223372036854775807 < (x15_26 ++ (⟨#[48]⟩ : ByteArray)).size + x9_2.size) = False := eq_false (Nat.not_lt.2 c30)
                  by_cases c31 : ((x15_26 ++ (⟨#[48]⟩ : ByteArray)) ++ x9_2).size + 1 ≤ 9223372036854775807
                  ·rw [if_pos c31] at H
                   have c31b0 := eq_true c31
                   have c31b1 : decide (((x15_26 ++ (⟨#[48]⟩ : ByteArray)) ++ x9_2).size + 1 ≤ 9223372036854775807) = true := decide_eq_true c31
                   try have c31b2 : (9223372036854775807 < ((x15_26 ++ (⟨#[48]⟩ : ByteArray)) ++ x9_2).size + 1) = False := eq_false (Nat.not_lt.2 c31)
                   by_cases c32 : (((x15_26 ++ (⟨#[48]⟩ : ByteArray)) ++ x9_2) ++ (⟨#[46]⟩ : ByteArray)).size + x10_3.size ≤ 9223372036854775807
                   ·rw [if_pos c32] at H
                    have c32b0 := eq_true c32
                    have c32b1 : decide ((((x15_26 ++ (⟨#[48]⟩ : ByteArray)) ++ x9_2) ++ (⟨#[46]⟩ : ByteArray)).size + x10_3.size ≤ 9223372036854775807) = true := decide_eq_true c32
                    try have c32b2 : (9223372036854775807 < (((x15_26 ++ (⟨#[48]⟩ : ByteArray)) ++ x9_2) ++ (⟨#[46]⟩ : ByteArray)).size + x10_3.size) = False := eq_false (Nat.not_lt.2 c32)
                    replace H := Option.bind_eq_some_iff.mp H
                    obtain ⟨⟨t205, t206, t209, t210⟩, A330, H⟩ := H
                    replace H : (if x15_26.size + x11_4.size ≤ 9223372036854775807 then (if (x15_26 ++ x11_4).size + 1 ≤ 9223372036854775807 then (if ((x15_26 ++ x11_4) ++ (⟨#[48]⟩ : ByteArray)).size + x9_2.size ≤ 9223372036854775807 then (if (((x15_26 ++ x11_4) ++ (⟨#[48]⟩ : ByteArray)) ++ x9_2).size + 1 ≤ 9223372036854775807 then (if ((((x15_26 ++ x11_4) ++ (⟨#[48]⟩ : ByteArray)) ++ x9_2) ++ (⟨#[46]⟩ : ByteArray)).size + x10_3.size ≤ 9223372036854775807 then (if (((((x15_26 ++ x11_4) ++ (⟨#[48]⟩ : ByteArray)) ++ x9_2) ++ (⟨#[46]⟩ : ByteArray)) ++ x10_3).size + x11_4.size ≤ 9223372036854775807 then ((dec_Parse.f kj26 ((((((x15_26 ++ x11_4) ++ (⟨#[48]⟩ : ByteArray)) ++ x9_2) ++ (⟨#[46]⟩ : ByteArray)) ++ x10_3) ++ x11_4)).bind fun bt212 => (if ((x15_26 ++ (⟨#[48]⟩ : ByteArray)) ++ x9_2).size + x10_3.size ≤ 9223372036854775807 then ((dec_Parse.f kj26 (((x15_26 ++ (⟨#[48]⟩ : ByteArray)) ++ x9_2) ++ x10_3)).bind fun bt219 => (if (wrap64 ((wrap64 (t210 + bt212.2.2.2)) + bt219.2.2.2)) = 0 then ((dec_Cmp.f kj26 t205 t206 t209 bt212.1 bt212.2.1 bt212.2.2.1).bind fun t226 => (if t226 = 0 then ((G.dec_Dec_Text.f t205 t206 t209).bind fun t227 => ((G.dec_Dec_Text.f bt212.1 bt212.2.1 bt212.2.2.1).bind fun t228 => (if t227.toList = t228.toList then ((dec_Dec_Total.f t205 t206 t209).bind fun t229 => ((dec_Dec_Total.f bt212.1 bt212.2.1 bt212.2.2.1).bind fun t230 => (if t229 = t230 then ((dec_Dec_Fraction.f t205 t206 t209).bind fun t231 => ((dec_Dec_Fraction.f bt212.1 bt212.2.1 bt212.2.2.1).bind fun t232 => (if t231 = t232 then (if (l1.length : Int) > 0 then ((dec_Dec_Fraction.f t205 t206 t209).bind fun t233 => (some (decide (t233 ≤ (l1.length : Int))))) else ((dec_Cmp.f kj26 t205 t206 t209 bt219.1 bt219.2.1 bt219.2.2.1).bind fun t234 => (if t234 = 0 then ((dec_Dec_Fraction.f t205 t206 t209).bind fun t235 => (some (decide (t235 ≤ (l1.length : Int))))) else (some false)))) else (some false)))) else (some false)))) else (some false)))) else (some false))) else (some false))) else (none))) else (none)) else (none)) else (none)) else (none)) else (none)) else (none)) = some r := H
                    have A33 := Aside0.mk A330
                    clear A330
                    by_cases c34 : x15_26.size + x11_4.size ≤ 9223372036854775807
                    ·rw [if_pos c34] at H
                     have c34b0 := eq_true c34
                     have c34b1 : decide (x15_26.size + x11_4.size ≤ 9223372036854775807) = true := decide_eq_true c34
                     try have c34b2 : (9223372036854775807 < x15_26.size + x11_4.size) = False := eq_false (Nat.not_lt.2 c34)
                     by_cases c35 : (x15_26 ++ x11_4).size + 1 ≤ 9223372036854775807
                     ·rw [if_pos c35] at H
                      have c35b0 := eq_true c35
                      have c35b1 : decide ((x15_26 ++ x11_4).size + 1 ≤ 9223372036854775807) = true := decide_eq_true c35
                      try have c35b2 : (9223372036854775807 < (x15_26 ++ x11_4).size + 1) = False := eq_false (Nat.not_lt.2 c35)
                      by_cases c36 : ((x15_26 ++ x11_4) ++ (⟨#[48]⟩ : ByteArray)).size + x9_2.size ≤ 9223372036854775807
                      ·rw [if_pos c36] at H
                       have c36b0 := eq_true c36
                       have c36b1 : decide (((x15_26 ++ x11_4) ++ (⟨#[48]⟩ : ByteArray)).size + x9_2.size ≤ 9223372036854775807) = true := decide_eq_true c36
                       try have c36b2 : (9223372036854775807 < ((x15_26 ++ x11_4) ++ (⟨#[48]⟩ : ByteArray)).size + x9_2.size) = False := eq_false (Nat.not_lt.2 c36)
                       by_cases c37 : (((x15_26 ++ x11_4) ++ (⟨#[48]⟩ : ByteArray)) ++ x9_2).size + 1 ≤ 9223372036854775807
                       ·rw [if_pos c37] at H
                        have c37b0 := eq_true c37
                        have c37b1 : decide ((((x15_26 ++ x11_4) ++ (⟨#[48]⟩ : ByteArray)) ++ x9_2).size + 1 ≤ 9223372036854775807) = true := decide_eq_true c37
                        try have c37b2 : (9223372036854775807 < (((x15_26 ++ x11_4) ++ (⟨#[48]⟩ : ByteArray)) ++ x9_2).size + 1) = False := eq_false (Nat.not_lt.2 c37)
                        by_cases c38 : ((((x15_26 ++ x11_4) ++ (⟨#[48]⟩ : ByteArray)) ++ x9_2) ++ (⟨#[46]⟩ : ByteArray)).size + x10_3.size ≤ 9223372036854775807
                        ·rw [if_pos c38] at H
                         have c38b0 := eq_true c38
                         have c38b1 : decide (((((x15_26 ++ x11_4) ++ (⟨#[48]⟩ : ByteArray)) ++ x9_2) ++ (⟨#[46]⟩ : ByteArray)).size + x10_3.size ≤ 9223372036854775807) = true := decide_eq_true c38
                         try have c38b2 : (9223372036854775807 < ((((x15_26 ++ x11_4) ++ (⟨#[48]⟩ : ByteArray)) ++ x9_2) ++ (⟨#[46]⟩ : ByteArray)).size + x10_3.size) = False := eq_false (Nat.not_lt.2 c38)
                         by_cases c39 : (((((x15_26 ++ x11_4) ++ (⟨#[48]⟩ : ByteArray)) ++ x9_2) ++ (⟨#[46]⟩ : ByteArray)) ++ x10_3).size + x11_4.size ≤ 9223372036854775807
                         ·rw [if_pos c39] at H
                          have c39b0 := eq_true c39
                          have c39b1 : decide ((((((x15_26 ++ x11_4) ++ (⟨#[48]⟩ : ByteArray)) ++ x9_2) ++ (⟨#[46]⟩ : ByteArray)) ++ x10_3).size + x11_4.size ≤ 9223372036854775807) = true := decide_eq_true c39
                          try have c39b2 : (9223372036854775807 < (((((x15_26 ++ x11_4) ++ (⟨#[48]⟩ : ByteArray)) ++ x9_2) ++ (⟨#[46]⟩ : ByteArray)) ++ x10_3).size + x11_4.size) = False := eq_false (Nat.not_lt.2 c39)
                          replace H := Option.bind_eq_some_iff.mp H
                          obtain ⟨⟨t212, t213, t216, t217⟩, A400, H⟩ := H
                          replace H : (if ((x15_26 ++ (⟨#[48]⟩ : ByteArray)) ++ x9_2).size + x10_3.size ≤ 9223372036854775807 then ((dec_Parse.f kj26 (((x15_26 ++ (⟨#[48]⟩ : ByteArray)) ++ x9_2) ++ x10_3)).bind fun bt219 => (if (wrap64 ((wrap64 (t210 + t217)) + bt219.2.2.2)) = 0 then ((dec_Cmp.f kj26 t205 t206 t209 t212 t213 t216).bind fun t226 => (if t226 = 0 then ((G.dec_Dec_Text.f t205 t206 t209).bind fun t227 => ((G.dec_Dec_Text.f t212 t213 t216).bind fun t228 => (if t227.toList = t228.toList then ((dec_Dec_Total.f t205 t206 t209).bind fun t229 => ((dec_Dec_Total.f t212 t213 t216).bind fun t230 => (if t229 = t230 then ((dec_Dec_Fraction.f t205 t206 t209).bind fun t231 => ((dec_Dec_Fraction.f t212 t213 t216).bind fun t232 => (if t231 = t232 then (if (l1.length : Int) > 0 then ((dec_Dec_Fraction.f t205 t206 t209).bind fun t233 => (some (decide (t233 ≤ (l1.length : Int))))) else ((dec_Cmp.f kj26 t205 t206 t209 bt219.1 bt219.2.1 bt219.2.2.1).bind fun t234 => (if t234 = 0 then ((dec_Dec_Fraction.f t205 t206 t209).bind fun t235 => (some (decide (t235 ≤ (l1.length : Int))))) else (some false)))) else (some false)))) else (some false)))) else (some false)))) else (some false))) else (some false))) else (none)) = some r := H
                          have A40 := Aside0.mk A400
                          clear A400
                          by_cases c41 : ((x15_26 ++ (⟨#[48]⟩ : ByteArray)) ++ x9_2).size + x10_3.size ≤ 9223372036854775807
                          ·rw [if_pos c41] at H
                           have c41b0 := eq_true c41
                           have c41b1 : decide (((x15_26 ++ (⟨#[48]⟩ : ByteArray)) ++ x9_2).size + x10_3.size ≤ 9223372036854775807) = true := decide_eq_true c41
                           try have c41b2 : (9223372036854775807 < ((x15_26 ++ (⟨#[48]⟩ : ByteArray)) ++ x9_2).size + x10_3.size) = False := eq_false (Nat.not_lt.2 c41)
                           replace H := Option.bind_eq_some_iff.mp H
                           obtain ⟨⟨t219, t220, t223, t224⟩, A420, H⟩ := H
                           replace H : (if (wrap64 ((wrap64 (t210 + t217)) + t224)) = 0 then ((dec_Cmp.f kj26 t205 t206 t209 t212 t213 t216).bind fun t226 => (if t226 = 0 then ((G.dec_Dec_Text.f t205 t206 t209).bind fun t227 => ((G.dec_Dec_Text.f t212 t213 t216).bind fun t228 => (if t227.toList = t228.toList then ((dec_Dec_Total.f t205 t206 t209).bind fun t229 => ((dec_Dec_Total.f t212 t213 t216).bind fun t230 => (if t229 = t230 then ((dec_Dec_Fraction.f t205 t206 t209).bind fun t231 => ((dec_Dec_Fraction.f t212 t213 t216).bind fun t232 => (if t231 = t232 then (if (l1.length : Int) > 0 then ((dec_Dec_Fraction.f t205 t206 t209).bind fun t233 => (some (decide (t233 ≤ (l1.length : Int))))) else ((dec_Cmp.f kj26 t205 t206 t209 t219 t220 t223).bind fun t234 => (if t234 = 0 then ((dec_Dec_Fraction.f t205 t206 t209).bind fun t235 => (some (decide (t235 ≤ (l1.length : Int))))) else (some false)))) else (some false)))) else (some false)))) else (some false)))) else (some false))) else (some false)) = some r := H
                           have A42 := Aside0.mk A420
                           clear A420
                           by_cases c43 : (wrap64 ((wrap64 (t210 + t217)) + t224)) = 0
                           ·rw [if_pos c43] at H
                            have c43b0 : ((wrap64 ((wrap64 (t210 + t217)) + t224)) == 0) = true := beq_iff_eq.mpr c43
                            have c43b1 : ((wrap64 ((wrap64 (t210 + t217)) + t224)) != 0) = false := bne_eq_false_iff_eq.mpr c43
                            clear c43
                            replace H := Option.bind_eq_some_iff.mp H
                            obtain ⟨t226, A440, H⟩ := H
                            replace H : (if t226 = 0 then ((G.dec_Dec_Text.f t205 t206 t209).bind fun t227 => ((G.dec_Dec_Text.f t212 t213 t216).bind fun t228 => (if t227.toList = t228.toList then ((dec_Dec_Total.f t205 t206 t209).bind fun t229 => ((dec_Dec_Total.f t212 t213 t216).bind fun t230 => (if t229 = t230 then ((dec_Dec_Fraction.f t205 t206 t209).bind fun t231 => ((dec_Dec_Fraction.f t212 t213 t216).bind fun t232 => (if t231 = t232 then (if (l1.length : Int) > 0 then ((dec_Dec_Fraction.f t205 t206 t209).bind fun t233 => (some (decide (t233 ≤ (l1.length : Int))))) else ((dec_Cmp.f kj26 t205 t206 t209 t219 t220 t223).bind fun t234 => (if t234 = 0 then ((dec_Dec_Fraction.f t205 t206 t209).bind fun t235 => (some (decide (t235 ≤ (l1.length : Int))))) else (some false)))) else (some false)))) else (some false)))) else (some false)))) else (some false)) = some r := H
                            have A44 := Aside0.mk A440
                            clear A440
                            by_cases c45 : t226 = 0
                            ·rw [if_pos c45] at H
                             have c45b0 : (t226 == 0) = true := beq_iff_eq.mpr c45
                             have c45b1 : (t226 != 0) = false := bne_eq_false_iff_eq.mpr c45
                             clear c45
                             replace H := Option.bind_eq_some_iff.mp H
                             obtain ⟨t227, A460, H⟩ := H
                             replace H : ((G.dec_Dec_Text.f t212 t213 t216).bind fun t228 => (if t227.toList = t228.toList then ((dec_Dec_Total.f t205 t206 t209).bind fun t229 => ((dec_Dec_Total.f t212 t213 t216).bind fun t230 => (if t229 = t230 then ((dec_Dec_Fraction.f t205 t206 t209).bind fun t231 => ((dec_Dec_Fraction.f t212 t213 t216).bind fun t232 => (if t231 = t232 then (if (l1.length : Int) > 0 then ((dec_Dec_Fraction.f t205 t206 t209).bind fun t233 => (some (decide (t233 ≤ (l1.length : Int))))) else ((dec_Cmp.f kj26 t205 t206 t209 t219 t220 t223).bind fun t234 => (if t234 = 0 then ((dec_Dec_Fraction.f t205 t206 t209).bind fun t235 => (some (decide (t235 ≤ (l1.length : Int))))) else (some false)))) else (some false)))) else (some false)))) else (some false))) = some r := H
                             have A46 := Aside0.mk A460
                             clear A460
                             replace H := Option.bind_eq_some_iff.mp H
                             obtain ⟨t228, A470, H⟩ := H
                             replace H : (if t227.toList = t228.toList then ((dec_Dec_Total.f t205 t206 t209).bind fun t229 => ((dec_Dec_Total.f t212 t213 t216).bind fun t230 => (if t229 = t230 then ((dec_Dec_Fraction.f t205 t206 t209).bind fun t231 => ((dec_Dec_Fraction.f t212 t213 t216).bind fun t232 => (if t231 = t232 then (if (l1.length : Int) > 0 then ((dec_Dec_Fraction.f t205 t206 t209).bind fun t233 => (some (decide (t233 ≤ (l1.length : Int))))) else ((dec_Cmp.f kj26 t205 t206 t209 t219 t220 t223).bind fun t234 => (if t234 = 0 then ((dec_Dec_Fraction.f t205 t206 t209).bind fun t235 => (some (decide (t235 ≤ (l1.length : Int))))) else (some false)))) else (some false)))) else (some false)))) else (some false)) = some r := H
                             have A47 := Aside0.mk A470
                             clear A470
                             by_cases c48 : t227.toList = t228.toList
                             ·rw [if_pos c48] at H
                              have c48b0 : (t227.toList == t228.toList) = true := beq_iff_eq.mpr c48
                              have c48b1 : (t227.toList != t228.toList) = false := bne_eq_false_iff_eq.mpr c48
                              clear c48
                              replace H := Option.bind_eq_some_iff.mp H
                              obtain ⟨t229, A490, H⟩ := H
                              replace H : ((dec_Dec_Total.f t212 t213 t216).bind fun t230 => (if t229 = t230 then ((dec_Dec_Fraction.f t205 t206 t209).bind fun t231 => ((dec_Dec_Fraction.f t212 t213 t216).bind fun t232 => (if t231 = t232 then (if (l1.length : Int) > 0 then ((dec_Dec_Fraction.f t205 t206 t209).bind fun t233 => (some (decide (t233 ≤ (l1.length : Int))))) else ((dec_Cmp.f kj26 t205 t206 t209 t219 t220 t223).bind fun t234 => (if t234 = 0 then ((dec_Dec_Fraction.f t205 t206 t209).bind fun t235 => (some (decide (t235 ≤ (l1.length : Int))))) else (some false)))) else (some false)))) else (some false))) = some r := H
                              have A49 := Aside0.mk A490
                              clear A490
                              replace H := Option.bind_eq_some_iff.mp H
                              obtain ⟨t230, A500, H⟩ := H
                              replace H : (if t229 = t230 then ((dec_Dec_Fraction.f t205 t206 t209).bind fun t231 => ((dec_Dec_Fraction.f t212 t213 t216).bind fun t232 => (if t231 = t232 then (if (l1.length : Int) > 0 then ((dec_Dec_Fraction.f t205 t206 t209).bind fun t233 => (some (decide (t233 ≤ (l1.length : Int))))) else ((dec_Cmp.f kj26 t205 t206 t209 t219 t220 t223).bind fun t234 => (if t234 = 0 then ((dec_Dec_Fraction.f t205 t206 t209).bind fun t235 => (some (decide (t235 ≤ (l1.length : Int))))) else (some false)))) else (some false)))) else (some false)) = some r := H
                              have A50 := Aside0.mk A500
                              clear A500
                              by_cases c51 : t229 = t230
                              ·rw [if_pos c51] at H
                               have c51b0 : (t229 == t230) = true := beq_iff_eq.mpr c51
                               have c51b1 : (t229 != t230) = false := bne_eq_false_iff_eq.mpr c51
                               clear c51
                               replace H := Option.bind_eq_some_iff.mp H
                               obtain ⟨t231, A520, H⟩ := H
                               replace H : ((dec_Dec_Fraction.f t212 t213 t216).bind fun t232 => (if t231 = t232 then (if (l1.length : Int) > 0 then ((dec_Dec_Fraction.f t205 t206 t209).bind fun t233 => (some (decide (t233 ≤ (l1.length : Int))))) else ((dec_Cmp.f kj26 t205 t206 t209 t219 t220 t223).bind fun t234 => (if t234 = 0 then ((dec_Dec_Fraction.f t205 t206 t209).bind fun t235 => (some (decide (t235 ≤ (l1.length : Int))))) else (some false)))) else (some false))) = some r := H
                               have A52 := Aside0.mk A520
                               clear A520
                               replace H := Option.bind_eq_some_iff.mp H
                               obtain ⟨t232, A530, H⟩ := H
                               replace H : (if t231 = t232 then (if (l1.length : Int) > 0 then ((dec_Dec_Fraction.f t205 t206 t209).bind fun t233 => (some (decide (t233 ≤ (l1.length : Int))))) else ((dec_Cmp.f kj26 t205 t206 t209 t219 t220 t223).bind fun t234 => (if t234 = 0 then ((dec_Dec_Fraction.f t205 t206 t209).bind fun t235 => (some (decide (t235 ≤ (l1.length : Int))))) else (some false)))) else (some false)) = some r := H
                               have A53 := Aside0.mk A530
                               clear A530
                               by_cases c54 : t231 = t232
                               ·rw [if_pos c54] at H
                                have c54b0 : (t231 == t232) = true := beq_iff_eq.mpr c54
                                have c54b1 : (t231 != t232) = false := bne_eq_false_iff_eq.mpr c54
                                clear c54
                                by_cases c55 : (l1.length : Int) > 0
                                ·rw [if_pos c55] at H
                                 have c55b0 : decide (0 < (l1.length : Int)) = true := decide_eq_true c55
                                 have c55b1 : decide (0 < l1.length) = true := decide_eq_true (by omega)
                                 clear c55
                                 replace H := Option.bind_eq_some_iff.mp H
                                 obtain ⟨t233, A560, H⟩ := H
                                 replace H : (some (decide (t233 ≤ (l1.length : Int)))) = some r := H
                                 have A56 := Aside0.mk A560
                                 clear A560
                                 obtain rfl := Option.some.inj H
                                 try go_wp2_with (first | ((with_reducible refine gate_callee (f := 7) rfl ?_); refine goesL_ (some 88) rfl rfl Try.func7 (by kernel_rfl) rfl #[.string ((((x15_26 ++ (⟨#[48]⟩ : ByteArray)) ++ x9_2) ++ (⟨#[46]⟩ : ByteArray)) ++ x10_3)] rfl (by (try simp only [List.map_toArray, List.map_cons, List.map_nil]); first | done | rfl | (simp only [List.length_drop, List.length_take]; rfl)) ?_; (with_reducible refine (dec_Parse.calls kj26 ((((x15_26 ++ (⟨#[48]⟩ : ByteArray)) ++ x9_2) ++ (⟨#[46]⟩ : ByteArray)) ++ x10_3) t205 t206 t209 t210 _ A33.out).mono ?_); rintro e w57 ⟨v207, rfl, ho0, hb⟩; refine ⟨_, rfl, ?_⟩; have n0_ := Aside0.mk (Kd.V_lower (Kd.V_mono (ok' := fun k_ => True) ho0 (fun k_ hk_ => trivial)) (below_size (by repeat (first | (with_reducible first | exact HB.out | apply below_alloc | apply pw_below_drewN | apply below_drew1) | exact HB.out)))); have n1_ := Aside0.mk (below_step (by repeat (first | (with_reducible first | exact HB.out | apply below_alloc | apply pw_below_drewN | apply below_drew1) | exact HB.out)) hb); clear HB; have HO208 := n0_; have HB := n1_; clear n0_ n1_; (try clear hb); (try clear hb2); (try clear hk); (try clear hi); (try clear ho0)) | ((with_reducible refine gate_dst (N := 16) rfl ?_); (try (refine gate_guard (by rfl) ?_; dsimp only)); refine box_event ?hg (N := 16) ?hd (cs := #[.bool false, .slice none 0 0, .int .i64 0]) (t := 25) ?hr ?_; (case hd => rfl); (case hg => rfl); (case hr => first | (go_simp; done) | (go_simp; rfl)); intro gb211 hg w58 hbox hb; have n0_ := Aside0.mk (Kd.V_below (Kd.V_elderB (S.v HO208.out) gb211 (Nat.le_of_eq hg.symm)) hb); have n1_ := Aside0.mk (below_step (by repeat (first | (with_reducible first | exact HB.out | apply below_alloc | apply pw_below_drewN | apply below_drew1) | exact HB.out)) hb); have n2_ := Aside0.mk (hbox); have n3_ := Aside0.mk ((by rw [hg]; exact (below_size (by repeat (first | (with_reducible first | exact HB.out | apply below_alloc | apply pw_below_drewN | apply below_drew1) | exact HB.out))) : w.heap.size ≤ gb211)); have n4_ := Aside0.mk ((by rw [hg]; exact (below_size (by repeat (first | (with_reducible first | exact HB.out | apply below_alloc | apply pw_below_drewN | apply below_drew1) | exact HB.out))) : w.heap.size ≤ gb211)); clear HO208; clear HB; have HO208 := n0_; have HB := n1_; have BK211 := n2_; have GW211 := n3_; have GE211 := n4_; clear n0_ n1_ n2_ n3_ n4_; clear hb hbox hg; have hcz59_0 : w58.cell? ⟨gb211, 0, none⟩ = some (.bool false) := (blk_cell BK211.out 0).trans rfl; have hcz59_1 : w58.cell? ⟨gb211, 1, none⟩ = some (.slice none 0 0) := (blk_cell BK211.out 1).trans rfl; have hcz59_2 : w58.cell? ⟨gb211, 2, none⟩ = some (.int .i64 0) := (blk_cell BK211.out 2).trans rfl; have hfz59_0 := blk_frozen BK211.out 0; have hfz59_1 := blk_frozen BK211.out 1; have hfz59_2 := blk_frozen BK211.out 2; obtain ⟨Ao60, co60, eo60⟩ := Kd.V_slice HO208.out; subst eo60) | ((with_reducible refine gate_callee (f := 7) rfl ?_); refine goesL_ (some 103) rfl rfl Try.func7 (by kernel_rfl) rfl #[.string ((((((x15_26 ++ x11_4) ++ (⟨#[48]⟩ : ByteArray)) ++ x9_2) ++ (⟨#[46]⟩ : ByteArray)) ++ x10_3) ++ x11_4)] rfl (by (try simp only [List.map_toArray, List.map_cons, List.map_nil]); first | done | rfl | (simp only [List.length_drop, List.length_take]; rfl)) ?_; (with_reducible refine (dec_Parse.calls kj26 ((((((x15_26 ++ x11_4) ++ (⟨#[48]⟩ : ByteArray)) ++ x9_2) ++ (⟨#[46]⟩ : ByteArray)) ++ x10_3) ++ x11_4) t212 t213 t216 t217 _ A40.out).mono ?_); rintro e w61 ⟨v214, rfl, ho0, hb⟩; refine ⟨_, rfl, ?_⟩; have n0_ := Aside0.mk (Kd.V_below (by (with_reducible repeat (first | apply Kd.V_alloc | apply Kd.V_drewN | apply Kd.V_drew)); exact (Kd.V_mono (Kd.V_far (p := ⟨gb211, 2, none⟩) (Kd.V_far (p := ⟨gb211, 1, none⟩) (Kd.V_far (p := ⟨gb211, 0, none⟩) (Kd.V_mono HO208.out (fun k_ hk => (⟨hk, hk.2⟩ : _ ∧ k_ ≠ gb211))) (fun _ hk => hk.2) (.bool t205)) (fun _ hk => hk.2) (.slice Ao60 t206.length co60)) (fun _ hk => hk.2) (.int .i64 t209)) (fun _ h_ => h_.1))) hb); have n1_ := Aside0.mk (Kd.V_lower (Kd.V_mono (ok' := fun k_ => k_ ≠ gb211) ho0 (fun k_ hk_ => (Kd.freshB (g := gb211) (o := .cells #[.bool t205, .slice Ao60 t206.length co60, .int .i64 t209] 25 (0, 0)) (by (with_reducible repeat (first | refine blk_drewN ?_ _ | refine blk_drew ?_ | refine blk_alloc ?_ _)); refine blk_put (cs := #[.bool t205, .slice Ao60 t206.length co60, .int .i64 0]) ?_ 2 _ rfl; (with_reducible repeat (first | refine blk_drewN ?_ _ | refine blk_drew ?_ | refine blk_alloc ?_ _)); refine blk_put (cs := #[.bool t205, .slice none 0 0, .int .i64 0]) ?_ 1 _ rfl; (with_reducible repeat (first | refine blk_drewN ?_ _ | refine blk_drew ?_ | refine blk_alloc ?_ _)); refine blk_put (cs := #[.bool false, .slice none 0 0, .int .i64 0]) ?_ 0 _ rfl; (with_reducible repeat (first | refine blk_drewN ?_ _ | refine blk_drew ?_ | refine blk_alloc ?_ _)); exact BK211.out) k_ hk_))) (below_size (by repeat (first | (with_reducible first | exact HB.out | apply below_alloc | apply pw_below_drewN | apply below_drew1 | refine below_set ?_ GE211.out) | exact HB.out)))); have n2_ := Aside0.mk (blk_below (g := gb211) (o := .cells #[.bool t205, .slice Ao60 t206.length co60, .int .i64 t209] 25 (0, 0)) (by (with_reducible repeat (first | refine blk_drewN ?_ _ | refine blk_drew ?_ | refine blk_alloc ?_ _)); refine blk_put (cs := #[.bool t205, .slice Ao60 t206.length co60, .int .i64 0]) ?_ 2 _ rfl; (with_reducible repeat (first | refine blk_drewN ?_ _ | refine blk_drew ?_ | refine blk_alloc ?_ _)); refine blk_put (cs := #[.bool t205, .slice none 0 0, .int .i64 0]) ?_ 1 _ rfl; (with_reducible repeat (first | refine blk_drewN ?_ _ | refine blk_drew ?_ | refine blk_alloc ?_ _)); refine blk_put (cs := #[.bool false, .slice none 0 0, .int .i64 0]) ?_ 0 _ rfl; (with_reducible repeat (first | refine blk_drewN ?_ _ | refine blk_drew ?_ | refine blk_alloc ?_ _)); exact BK211.out) hb); have n3_ := Aside0.mk (below_step (by repeat (first | (with_reducible first | exact HB.out | apply below_alloc | apply pw_below_drewN | apply below_drew1 | refine below_set ?_ GE211.out) | exact HB.out)) hb); clear HO208; clear BK211; clear HB; have HO208 := n0_; have HO215 := n1_; have BK211 := n2_; have HB := n3_; clear n0_ n1_ n2_ n3_; (try clear hb); (try clear hb2); (try clear hk); (try clear hi); (try clear ho0)) | ((with_reducible refine gate_dst (N := 18) rfl ?_); (try (refine gate_guard (by rfl) ?_; dsimp only)); refine box_event ?hg (N := 18) ?hd (cs := #[.bool false, .slice none 0 0, .int .i64 0]) (t := 25) ?hr ?_; (case hd => rfl); (case hg => rfl); (case hr => first | (go_simp; done) | (go_simp; rfl)); intro gb218 hg w62 hbox hb; have n0_ := Aside0.mk (Kd.V_below (Kd.V_elderB (S.v HO208.out) gb218 (Nat.le_of_eq hg.symm)) hb); have n1_ := Aside0.mk (Kd.V_below (Kd.V_elderB (S.v HO215.out) gb218 (Nat.le_of_eq hg.symm)) hb); have n2_ := Aside0.mk (blk_below (g := gb211) (o := .cells #[.bool t205, .slice Ao60 t206.length co60, .int .i64 t209] 25 (0, 0)) (S.b BK211.out) hb); have n3_ := Aside0.mk (below_step (by repeat (first | (with_reducible first | exact HB.out | apply below_alloc | apply pw_below_drewN | apply below_drew1 | refine below_set ?_ GE211.out) | exact HB.out)) hb); have n4_ := Aside0.mk (hbox); have n5_ := Aside0.mk ((by rw [hg]; exact (below_size (by repeat (first | (with_reducible first | exact HB.out | apply below_alloc | apply pw_below_drewN | apply below_drew1 | refine below_set ?_ GE211.out) | exact HB.out))) : w.heap.size ≤ gb218)); have n6_ := Aside0.mk ((by rw [hg]; exact (below_size (by repeat (first | (with_reducible first | exact HB.out | apply below_alloc | apply pw_below_drewN | apply below_drew1 | refine below_set ?_ GE211.out) | exact HB.out))) : w.heap.size ≤ gb218)); have n7_ := Aside0.mk ((by rw [hg]; exact Nat.ne_of_lt (blk_lt (g := gb211) (o := .cells #[.bool t205, .slice Ao60 t206.length co60, .int .i64 t209] 25 (0, 0)) (S.b BK211.out)) : gb211 ≠ gb218)); have n8_ := Aside0.mk ((by rw [hg]; exact Nat.ne_of_gt (blk_lt (g := gb211) (o := .cells #[.bool t205, .slice Ao60 t206.length co60, .int .i64 t209] 25 (0, 0)) (S.b BK211.out)) : gb218 ≠ gb211)); clear HO208; clear HO215; clear BK211; clear HB; have HO208 := n0_; have HO215 := n1_; have BK211 := n2_; have HB := n3_; have BK218 := n4_; have GW218 := n5_; have GE218 := n6_; have NB211_218 := n7_; have NB218_211 := n8_; clear n0_ n1_ n2_ n3_ n4_ n5_ n6_ n7_ n8_; clear hb hbox hg; have hnb63 := NB218_211.out; have hnc63 := NB211_218.out; have hcz64_0 : w62.cell? ⟨gb218, 0, none⟩ = some (.bool false) := (blk_cell BK218.out 0).trans rfl; have hcz64_1 : w62.cell? ⟨gb218, 1, none⟩ = some (.slice none 0 0) := (blk_cell BK218.out 1).trans rfl; have hcz64_2 : w62.cell? ⟨gb218, 2, none⟩ = some (.int .i64 0) := (blk_cell BK218.out 2).trans rfl; have hfz64_0 := blk_frozen BK218.out 0; have hfz64_1 := blk_frozen BK218.out 1; have hfz64_2 := blk_frozen BK218.out 2; obtain ⟨Ao65, co65, eo65⟩ := Kd.V_slice HO215.out; subst eo65) | ((with_reducible refine gate_callee (f := 7) rfl ?_); refine goesL_ (some 113) rfl rfl Try.func7 (by kernel_rfl) rfl #[.string (((x15_26 ++ (⟨#[48]⟩ : ByteArray)) ++ x9_2) ++ x10_3)] rfl (by (try simp only [List.map_toArray, List.map_cons, List.map_nil]); first | done | rfl | (simp only [List.length_drop, List.length_take]; rfl)) ?_; (with_reducible refine (dec_Parse.calls kj26 (((x15_26 ++ (⟨#[48]⟩ : ByteArray)) ++ x9_2) ++ x10_3) t219 t220 t223 t224 _ A42.out).mono ?_); rintro e w66 ⟨v221, rfl, ho0, hb⟩; refine ⟨_, rfl, ?_⟩; have n0_ := Aside0.mk (Kd.V_below (by (with_reducible repeat (first | apply Kd.V_alloc | apply Kd.V_drewN | apply Kd.V_drew)); exact (Kd.V_mono (Kd.V_far (p := ⟨gb218, 2, none⟩) (Kd.V_far (p := ⟨gb218, 1, none⟩) (Kd.V_far (p := ⟨gb218, 0, none⟩) (Kd.V_mono HO208.out (fun k_ hk => (⟨hk, hk.2⟩ : _ ∧ k_ ≠ gb218))) (fun _ hk => hk.2) (.bool t212)) (fun _ hk => hk.2) (.slice Ao65 t213.length co65)) (fun _ hk => hk.2) (.int .i64 t216)) (fun _ h_ => h_.1))) hb); have n1_ := Aside0.mk (Kd.V_below (by (with_reducible repeat (first | apply Kd.V_alloc | apply Kd.V_drewN | apply Kd.V_drew)); exact (Kd.V_mono (Kd.V_far (p := ⟨gb218, 2, none⟩) (Kd.V_far (p := ⟨gb218, 1, none⟩) (Kd.V_far (p := ⟨gb218, 0, none⟩) (Kd.V_mono HO215.out (fun k_ hk => (⟨hk, hk.2⟩ : _ ∧ k_ ≠ gb218))) (fun _ hk => hk.2) (.bool t212)) (fun _ hk => hk.2) (.slice Ao65 t213.length co65)) (fun _ hk => hk.2) (.int .i64 t216)) (fun _ h_ => h_.1))) hb); have n2_ := Aside0.mk (Kd.V_lower (Kd.V_mono (ok' := fun k_ => k_ ≠ gb211 ∧ k_ ≠ gb218) ho0 (fun k_ hk_ => ⟨(Kd.freshB (g := gb211) (o := .cells #[.bool t205, .slice Ao60 t206.length co60, .int .i64 t209] 25 (0, 0)) (by (with_reducible repeat (first | refine blk_drewN ?_ _ | refine blk_drew ?_ | refine blk_alloc ?_ _)); refine blk_far ?_ NB211_218.out _; (with_reducible repeat (first | refine blk_drewN ?_ _ | refine blk_drew ?_ | refine blk_alloc ?_ _)); refine blk_far ?_ NB211_218.out _; (with_reducible repeat (first | refine blk_drewN ?_ _ | refine blk_drew ?_ | refine blk_alloc ?_ _)); refine blk_far ?_ NB211_218.out _; (with_reducible repeat (first | refine blk_drewN ?_ _ | refine blk_drew ?_ | refine blk_alloc ?_ _)); exact BK211.out) k_ hk_), (Kd.freshB (g := gb218) (o := .cells #[.bool t212, .slice Ao65 t213.length co65, .int .i64 t216] 25 (0, 0)) (by (with_reducible repeat (first | refine blk_drewN ?_ _ | refine blk_drew ?_ | refine blk_alloc ?_ _)); refine blk_put (cs := #[.bool t212, .slice Ao65 t213.length co65, .int .i64 0]) ?_ 2 _ rfl; (with_reducible repeat (first | refine blk_drewN ?_ _ | refine blk_drew ?_ | refine blk_alloc ?_ _)); refine blk_put (cs := #[.bool t212, .slice none 0 0, .int .i64 0]) ?_ 1 _ rfl; (with_reducible repeat (first | refine blk_drewN ?_ _ | refine blk_drew ?_ | refine blk_alloc ?_ _)); refine blk_put (cs := #[.bool false, .slice none 0 0, .int .i64 0]) ?_ 0 _ rfl; (with_reducible repeat (first | refine blk_drewN ?_ _ | refine blk_drew ?_ | refine blk_alloc ?_ _)); exact BK218.out) k_ hk_)⟩)) (below_size (by repeat (first | (with_reducible first | exact HB.out | apply below_alloc | apply pw_below_drewN | apply below_drew1 | refine below_set ?_ GE211.out | refine below_set ?_ GE218.out) | exact HB.out)))); have n3_ := Aside0.mk (blk_below (g := gb211) (o := .cells #[.bool t205, .slice Ao60 t206.length co60, .int .i64 t209] 25 (0, 0)) (by (with_reducible repeat (first | refine blk_drewN ?_ _ | refine blk_drew ?_ | refine blk_alloc ?_ _)); refine blk_far ?_ NB211_218.out _; (with_reducible repeat (first | refine blk_drewN ?_ _ | refine blk_drew ?_ | refine blk_alloc ?_ _)); refine blk_far ?_ NB211_218.out _; (with_reducible repeat (first | refine blk_drewN ?_ _ | refine blk_drew ?_ | refine blk_alloc ?_ _)); refine blk_far ?_ NB211_218.out _; (with_reducible repeat (first | refine blk_drewN ?_ _ | refine blk_drew ?_ | refine blk_alloc ?_ _)); exact BK211.out) hb); have n4_ := Aside0.mk (blk_below (g := gb218) (o := .cells #[.bool t212, .slice Ao65 t213.length co65, .int .i64 t216] 25 (0, 0)) (by (with_reducible repeat (first | refine blk_drewN ?_ _ | refine blk_drew ?_ | refine blk_alloc ?_ _)); refine blk_put (cs := #[.bool t212, .slice Ao65 t213.length co65, .int .i64 0]) ?_ 2 _ rfl; (with_reducible repeat (first | refine blk_drewN ?_ _ | refine blk_drew ?_ | refine blk_alloc ?_ _)); refine blk_put (cs := #[.bool t212, .slice none 0 0, .int .i64 0]) ?_ 1 _ rfl; (with_reducible repeat (first | refine blk_drewN ?_ _ | refine blk_drew ?_ | refine blk_alloc ?_ _)); refine blk_put (cs := #[.bool false, .slice none 0 0, .int .i64 0]) ?_ 0 _ rfl; (with_reducible repeat (first | refine blk_drewN ?_ _ | refine blk_drew ?_ | refine blk_alloc ?_ _)); exact BK218.out) hb); have n5_ := Aside0.mk (below_step (by repeat (first | (with_reducible first | exact HB.out | apply below_alloc | apply pw_below_drewN | apply below_drew1 | refine below_set ?_ GE211.out | refine below_set ?_ GE218.out) | exact HB.out)) hb); clear HO208; clear HO215; clear BK211; clear BK218; clear HB; have HO208 := n0_; have HO215 := n1_; have HO222 := n2_; have BK211 := n3_; have BK218 := n4_; have HB := n5_; clear n0_ n1_ n2_ n3_ n4_ n5_; (try clear hb); (try clear hb2); (try clear hk); (try clear hi); (try clear ho0)) | ((with_reducible refine gate_dst (N := 20) rfl ?_); (try (refine gate_guard (by rfl) ?_; dsimp only)); refine box_event ?hg (N := 20) ?hd (cs := #[.bool false, .slice none 0 0, .int .i64 0]) (t := 25) ?hr ?_; (case hd => rfl); (case hg => rfl); (case hr => first | (go_simp; done) | (go_simp; rfl)); intro gb225 hg w67 hbox hb; have n0_ := Aside0.mk (Kd.V_below (Kd.V_elderB (S.v HO208.out) gb225 (Nat.le_of_eq hg.symm)) hb); have n1_ := Aside0.mk (Kd.V_below (Kd.V_elderB (S.v HO215.out) gb225 (Nat.le_of_eq hg.symm)) hb); have n2_ := Aside0.mk (Kd.V_below (Kd.V_elderB (S.v HO222.out) gb225 (Nat.le_of_eq hg.symm)) hb); have n3_ := Aside0.mk (blk_below (g := gb211) (o := .cells #[.bool t205, .slice Ao60 t206.length co60, .int .i64 t209] 25 (0, 0)) (S.b BK211.out) hb); have n4_ := Aside0.mk (blk_below (g := gb218) (o := .cells #[.bool t212, .slice Ao65 t213.length co65, .int .i64 t216] 25 (0, 0)) (S.b BK218.out) hb); have n5_ := Aside0.mk (below_step (by repeat (first | (with_reducible first | exact HB.out | apply below_alloc | apply pw_below_drewN | apply below_drew1 | refine below_set ?_ GE211.out | refine below_set ?_ GE218.out) | exact HB.out)) hb); have n6_ := Aside0.mk (hbox); have n7_ := Aside0.mk ((by rw [hg]; exact (below_size (by repeat (first | (with_reducible first | exact HB.out | apply below_alloc | apply pw_below_drewN | apply below_drew1 | refine below_set ?_ GE211.out | refine below_set ?_ GE218.out) | exact HB.out))) : w.heap.size ≤ gb225)); have n8_ := Aside0.mk ((by rw [hg]; exact (below_size (by repeat (first | (with_reducible first | exact HB.out | apply below_alloc | apply pw_below_drewN | apply below_drew1 | refine below_set ?_ GE211.out | refine below_set ?_ GE218.out) | exact HB.out))) : w.heap.size ≤ gb225)); have n9_ := Aside0.mk ((by rw [hg]; exact Nat.ne_of_lt (blk_lt (g := gb211) (o := .cells #[.bool t205, .slice Ao60 t206.length co60, .int .i64 t209] 25 (0, 0)) (S.b BK211.out)) : gb211 ≠ gb225)); have n10_ := Aside0.mk ((by rw [hg]; exact Nat.ne_of_gt (blk_lt (g := gb211) (o := .cells #[.bool t205, .slice Ao60 t206.length co60, .int .i64 t209] 25 (0, 0)) (S.b BK211.out)) : gb225 ≠ gb211)); have n11_ := Aside0.mk ((by rw [hg]; exact Nat.ne_of_lt (blk_lt (g := gb218) (o := .cells #[.bool t212, .slice Ao65 t213.length co65, .int .i64 t216] 25 (0, 0)) (S.b BK218.out)) : gb218 ≠ gb225)); have n12_ := Aside0.mk ((by rw [hg]; exact Nat.ne_of_gt (blk_lt (g := gb218) (o := .cells #[.bool t212, .slice Ao65 t213.length co65, .int .i64 t216] 25 (0, 0)) (S.b BK218.out)) : gb225 ≠ gb218)); clear HO208; clear HO215; clear HO222; clear BK211; clear BK218; clear HB; have HO208 := n0_; have HO215 := n1_; have HO222 := n2_; have BK211 := n3_; have BK218 := n4_; have HB := n5_; have BK225 := n6_; have GW225 := n7_; have GE225 := n8_; have NB211_225 := n9_; have NB225_211 := n10_; have NB218_225 := n11_; have NB225_218 := n12_; clear n0_ n1_ n2_ n3_ n4_ n5_ n6_ n7_ n8_ n9_ n10_ n11_ n12_; clear hb hbox hg; have hnb68 := NB225_211.out; have hnc68 := NB211_225.out; have hnb69 := NB225_218.out; have hnc69 := NB218_225.out; have hcz70_0 : w67.cell? ⟨gb225, 0, none⟩ = some (.bool false) := (blk_cell BK225.out 0).trans rfl; have hcz70_1 : w67.cell? ⟨gb225, 1, none⟩ = some (.slice none 0 0) := (blk_cell BK225.out 1).trans rfl; have hcz70_2 : w67.cell? ⟨gb225, 2, none⟩ = some (.int .i64 0) := (blk_cell BK225.out 2).trans rfl; have hfz70_0 := blk_frozen BK225.out 0; have hfz70_1 := blk_frozen BK225.out 1; have hfz70_2 := blk_frozen BK225.out 2; obtain ⟨Ao71, co71, eo71⟩ := Kd.V_slice HO222.out; subst eo71))
                                 any_goals (first | (exfalso; rename_i hx_; have e1_ : (⟨#[48]⟩ : ByteArray).size = 1 := rfl; have e2_ : (⟨#[46]⟩ : ByteArray).size = 1 := rfl; simp only [ByteArray.size_append, e1_, e2_] at c29 c30 c31 c32 c34 c35 c36 c37 c38 c39 c41 hx_; omega) | skip)
                                 have n0_ : Aside0 (Kd.V (Kd.int .u8) 5 (((w67.setCell ⟨gb225, 0, none⟩ (.bool t219)).setCell ⟨gb225, 1, none⟩ (.slice Ao71 t220.length co71)).setCell ⟨gb225, 2, none⟩ (.int .i64 t223)) w.heap.size (fun k_ => k_ ≠ gb211 ∧ k_ ≠ gb218 ∧ k_ ≠ gb225) (.slice Ao60 t206.length co60) t206) := ⟨by (with_reducible repeat (first | apply Kd.V_alloc | apply Kd.V_drewN | apply Kd.V_drew)); exact Kd.V_mono (Kd.V_far (p := ⟨gb225, 2, none⟩) (Kd.V_far (p := ⟨gb225, 1, none⟩) (Kd.V_far (p := ⟨gb225, 0, none⟩) (Kd.V_mono HO208.out (fun k_ hk => (⟨hk, hk.2⟩ : _ ∧ k_ ≠ gb225))) (fun _ hk => hk.2) (.bool t219)) (fun _ hk => hk.2) (.slice Ao71 t220.length co71)) (fun _ hk => hk.2) (.int .i64 t223)) (fun _ hk => ⟨hk.1.1.1.2, ⟨hk.1.1.2, hk.1.2⟩⟩)⟩
                                 have n1_ : Aside0 (Kd.V (Kd.int .u8) 5 (((w67.setCell ⟨gb225, 0, none⟩ (.bool t219)).setCell ⟨gb225, 1, none⟩ (.slice Ao71 t220.length co71)).setCell ⟨gb225, 2, none⟩ (.int .i64 t223)) w.heap.size (fun k_ => k_ ≠ gb211 ∧ k_ ≠ gb218 ∧ k_ ≠ gb225) (.slice Ao65 t213.length co65) t213) := ⟨by (with_reducible repeat (first | apply Kd.V_alloc | apply Kd.V_drewN | apply Kd.V_drew)); exact Kd.V_mono (Kd.V_far (p := ⟨gb225, 2, none⟩) (Kd.V_far (p := ⟨gb225, 1, none⟩) (Kd.V_far (p := ⟨gb225, 0, none⟩) (Kd.V_mono HO215.out (fun k_ hk => (⟨hk, hk.2⟩ : _ ∧ k_ ≠ gb225))) (fun _ hk => hk.2) (.bool t219)) (fun _ hk => hk.2) (.slice Ao71 t220.length co71)) (fun _ hk => hk.2) (.int .i64 t223)) (fun _ hk => ⟨hk.1.1.1, ⟨hk.1.1.2, hk.1.2⟩⟩)⟩
                                 have n2_ : Aside0 (Kd.V (Kd.int .u8) 5 (((w67.setCell ⟨gb225, 0, none⟩ (.bool t219)).setCell ⟨gb225, 1, none⟩ (.slice Ao71 t220.length co71)).setCell ⟨gb225, 2, none⟩ (.int .i64 t223)) w.heap.size (fun k_ => k_ ≠ gb211 ∧ k_ ≠ gb218 ∧ k_ ≠ gb225) (.slice Ao71 t220.length co71) t220) := ⟨by (with_reducible repeat (first | apply Kd.V_alloc | apply Kd.V_drewN | apply Kd.V_drew)); exact Kd.V_mono (Kd.V_far (p := ⟨gb225, 2, none⟩) (Kd.V_far (p := ⟨gb225, 1, none⟩) (Kd.V_far (p := ⟨gb225, 0, none⟩) (Kd.V_mono HO222.out (fun k_ hk => (⟨hk, hk.2⟩ : _ ∧ k_ ≠ gb225))) (fun _ hk => hk.2) (.bool t219)) (fun _ hk => hk.2) (.slice Ao71 t220.length co71)) (fun _ hk => hk.2) (.int .i64 t223)) (fun _ hk => ⟨hk.1.1.1, ⟨hk.1.1.2, hk.1.2⟩⟩)⟩
                                 have n3_ : Aside0 ((((w67.setCell ⟨gb225, 0, none⟩ (.bool t219)).setCell ⟨gb225, 1, none⟩ (.slice Ao71 t220.length co71)).setCell ⟨gb225, 2, none⟩ (.int .i64 t223)).heap[gb211]? = some (.cells #[.bool t205, .slice Ao60 t206.length co60, .int .i64 t209] 25 (0, 0))) := ⟨by (with_reducible repeat (first | refine blk_drewN ?_ _ | refine blk_drew ?_ | refine blk_alloc ?_ _)); refine blk_far ?_ NB211_225.out _; (with_reducible repeat (first | refine blk_drewN ?_ _ | refine blk_drew ?_ | refine blk_alloc ?_ _)); refine blk_far ?_ NB211_225.out _; (with_reducible repeat (first | refine blk_drewN ?_ _ | refine blk_drew ?_ | refine blk_alloc ?_ _)); refine blk_far ?_ NB211_225.out _; (with_reducible repeat (first | refine blk_drewN ?_ _ | refine blk_drew ?_ | refine blk_alloc ?_ _)); exact BK211.out⟩
                                 have n4_ : Aside0 ((((w67.setCell ⟨gb225, 0, none⟩ (.bool t219)).setCell ⟨gb225, 1, none⟩ (.slice Ao71 t220.length co71)).setCell ⟨gb225, 2, none⟩ (.int .i64 t223)).heap[gb218]? = some (.cells #[.bool t212, .slice Ao65 t213.length co65, .int .i64 t216] 25 (0, 0))) := ⟨by (with_reducible repeat (first | refine blk_drewN ?_ _ | refine blk_drew ?_ | refine blk_alloc ?_ _)); refine blk_far ?_ NB218_225.out _; (with_reducible repeat (first | refine blk_drewN ?_ _ | refine blk_drew ?_ | refine blk_alloc ?_ _)); refine blk_far ?_ NB218_225.out _; (with_reducible repeat (first | refine blk_drewN ?_ _ | refine blk_drew ?_ | refine blk_alloc ?_ _)); refine blk_far ?_ NB218_225.out _; (with_reducible repeat (first | refine blk_drewN ?_ _ | refine blk_drew ?_ | refine blk_alloc ?_ _)); exact BK218.out⟩
                                 have n5_ : Aside0 ((((w67.setCell ⟨gb225, 0, none⟩ (.bool t219)).setCell ⟨gb225, 1, none⟩ (.slice Ao71 t220.length co71)).setCell ⟨gb225, 2, none⟩ (.int .i64 t223)).heap[gb225]? = some (.cells #[.bool t219, .slice Ao71 t220.length co71, .int .i64 t223] 25 (0, 0))) := ⟨by (with_reducible repeat (first | refine blk_drewN ?_ _ | refine blk_drew ?_ | refine blk_alloc ?_ _)); refine blk_put (cs := #[.bool t219, .slice Ao71 t220.length co71, .int .i64 0]) ?_ 2 _ rfl; (with_reducible repeat (first | refine blk_drewN ?_ _ | refine blk_drew ?_ | refine blk_alloc ?_ _)); refine blk_put (cs := #[.bool t219, .slice none 0 0, .int .i64 0]) ?_ 1 _ rfl; (with_reducible repeat (first | refine blk_drewN ?_ _ | refine blk_drew ?_ | refine blk_alloc ?_ _)); refine blk_put (cs := #[.bool false, .slice none 0 0, .int .i64 0]) ?_ 0 _ rfl; (with_reducible repeat (first | refine blk_drewN ?_ _ | refine blk_drew ?_ | refine blk_alloc ?_ _)); exact BK225.out⟩
                                 have n6_ : Aside0 (Below w.heap.size w (((w67.setCell ⟨gb225, 0, none⟩ (.bool t219)).setCell ⟨gb225, 1, none⟩ (.slice Ao71 t220.length co71)).setCell ⟨gb225, 2, none⟩ (.int .i64 t223))) := ⟨by repeat (first | (with_reducible first | exact HB.out | apply below_alloc | apply pw_below_drewN | apply below_drew1 | refine below_set ?_ GE211.out | refine below_set ?_ GE218.out | refine below_set ?_ GE225.out) | exact HB.out)⟩
                                 (try clear HO208)
                                 (try clear HO215)
                                 (try clear HO222)
                                 (try clear BK211)
                                 (try clear BK218)
                                 (try clear BK225)
                                 (try clear HB)
                                 generalize (((w67.setCell ⟨gb225, 0, none⟩ (.bool t219)).setCell ⟨gb225, 1, none⟩ (.slice Ao71 t220.length co71)).setCell ⟨gb225, 2, none⟩ (.int .i64 t223)) = w72 at n0_ n1_ n2_ n3_ n4_ n5_ n6_ ⊢
                                 have HO208 := n0_
                                 have HO215 := n1_
                                 have HO222 := n2_
                                 have BK211 := n3_
                                 have BK218 := n4_
                                 have BK225 := n5_
                                 have HB := n6_
                                 clear n0_ n1_ n2_ n3_ n4_ n5_ n6_
                                 have n0_ := Aside0.mk (Kd.V_drew HO208.out)
                                 have n1_ := Aside0.mk (Kd.V_drew HO215.out)
                                 have n2_ := Aside0.mk (Kd.V_drew HO222.out)
                                 have n3_ := Aside0.mk (blk_drew BK211.out)
                                 have n4_ := Aside0.mk (blk_drew BK218.out)
                                 have n5_ := Aside0.mk (blk_drew BK225.out)
                                 have n6_ := Aside0.mk (below_drew1 HB.out)
                                 clear HO208
                                 clear HO215
                                 clear HO222
                                 clear BK211
                                 clear BK218
                                 clear BK225
                                 clear HB
                                 have HO208 := n0_
                                 have HO215 := n1_
                                 have HO222 := n2_
                                 have BK211 := n3_
                                 have BK218 := n4_
                                 have BK225 := n5_
                                 have HB := n6_
                                 clear n0_ n1_ n2_ n3_ n4_ n5_ n6_
                                 refine start_ (n := 52) (S := fun w' => w'.cell? ⟨gb211, 0, none⟩ = some (.bool t205) ∧ w'.cell? ⟨gb211, 1, none⟩ = some (.slice Ao60 t206.length co60) ∧ w'.cell? ⟨gb211, 2, none⟩ = some (.int .i64 t209) ∧ w'.cell? ⟨gb218, 0, none⟩ = some (.bool t212) ∧ w'.cell? ⟨gb218, 1, none⟩ = some (.slice Ao65 t213.length co65) ∧ w'.cell? ⟨gb218, 2, none⟩ = some (.int .i64 t216)) (ds := []) #[false, false, false, false, false, false, false, false, false, false, false, false, false, false, false, false, false, false, false, false, false, false, false, false, false, false, false, false, false, false, false, false, false, false, false, false, false, false, false, false, false, false, false, false, false, false, false, false, false, false, false, false] (by kernel_rfl) rfl rfl ⟨(blk_cell BK211.out 0).trans rfl, (blk_cell BK211.out 1).trans rfl, (blk_cell BK211.out 2).trans rfl, (blk_cell BK218.out 0).trans rfl, (blk_cell BK218.out 1).trans rfl, (blk_cell BK218.out 2).trans rfl⟩ (fun hHeld => ?_); refine with_tabW rubriclaw5_DecForms.tab26 rubriclaw5_DecForms.bits26 (fun HT_ HW_ => ?_)
                                 generalize w72.drew = w73 at HO208 HO215 HO222 BK211 BK218 BK225 HB hHeld ⊢
                                 refine pure_ (i := 0) (N := some 116) (v := ?_) (a' := ?_) #[true, false, false, false, false, false, false, false, false, false, false, false, false, false, false, false, false, false, false, false, false, false, false, false, false, false, false, false, false, false, false, false, false, false, false, false, false, false, false, false, false, false, false, false, false, false, false, false, false, false, false, false] rfl rfl (any_of HT_.out (by kernel_rfl)) (fun _ _ _ h => h) (Or.inl ⟨by rfl, ?_⟩) ?_ ?_
                                 rotate_left
                                 ·intro w'
                                  go_simp
                                  with_reducible rfl
                                 rotate_left
                                 ·simp only [Act.put, List.setIfInBounds_toArray, List.set_cons_zero, List.set_cons_succ, i64_w, i32_w]
                                  rfl
                                 refine pure_ (i := 1) (N := some 117) (v := ?_) (a' := ?_) #[true, true, false, false, false, false, false, false, false, false, false, false, false, false, false, false, false, false, false, false, false, false, false, false, false, false, false, false, false, false, false, false, false, false, false, false, false, false, false, false, false, false, false, false, false, false, false, false, false, false, false, false] rfl rfl (any_of HT_.out (by kernel_rfl)) (fun _ _ _ h => h) (Or.inl ⟨by rfl, ?_⟩) ?_ ?_
                                 rotate_left
                                 ·intro w'
                                  go_simp
                                  with_reducible rfl
                                 rotate_left
                                 ·simp only [Act.put, List.setIfInBounds_toArray, List.set_cons_zero, List.set_cons_succ, i64_w, i32_w]
                                  rfl
                                 refine pure_ (i := 2) (N := some 118) (v := ?_) (a' := ?_) #[true, true, true, false, false, false, false, false, false, false, false, false, false, false, false, false, false, false, false, false, false, false, false, false, false, false, false, false, false, false, false, false, false, false, false, false, false, false, false, false, false, false, false, false, false, false, false, false, false, false, false, false] rfl rfl (any_of HT_.out (by kernel_rfl)) (fun _ _ _ h => h) (Or.inl ⟨by rfl, ?_⟩) ?_ ?_
                                 rotate_left
                                 ·intro w'
                                  go_simp
                                  with_reducible rfl
                                 rotate_left
                                 ·simp only [Act.put, List.setIfInBounds_toArray, List.set_cons_zero, List.set_cons_succ, i64_w, i32_w]
                                  rfl
                                 refine pure_ (i := 3) (N := some 119) (v := ?_) (a' := ?_) #[true, true, true, true, false, false, false, false, false, false, false, false, false, false, false, false, false, false, false, false, false, false, false, false, false, false, false, false, false, false, false, false, false, false, false, false, false, false, false, false, false, false, false, false, false, false, false, false, false, false, false, false] rfl rfl (any_of HT_.out (by kernel_rfl)) (fun _ _ _ h => h) (Or.inl ⟨by rfl, ?_⟩) ?_ ?_
                                 rotate_left
                                 ·intro w'
                                  go_simp
                                  with_reducible rfl
                                 rotate_left
                                 ·simp only [Act.put, List.setIfInBounds_toArray, List.set_cons_zero, List.set_cons_succ, i64_w, i32_w]
                                  rfl
                                 refine pure_ (i := 4) (N := some 120) (v := ?_) (a' := ?_) #[true, true, true, true, true, false, false, false, false, false, false, false, false, false, false, false, false, false, false, false, false, false, false, false, false, false, false, false, false, false, false, false, false, false, false, false, false, false, false, false, false, false, false, false, false, false, false, false, false, false, false, false] rfl rfl (any_of HT_.out (by kernel_rfl)) (fun _ _ _ h => h) (Or.inl ⟨by rfl, ?_⟩) ?_ ?_
                                 rotate_left
                                 ·intro w'
                                  go_simp
                                  with_reducible rfl
                                 rotate_left
                                 ·simp only [Act.put, List.setIfInBounds_toArray, List.set_cons_zero, List.set_cons_succ, i64_w, i32_w]
                                  rfl
                                 refine pure_ (i := 5) (N := some 121) (v := ?_) (a' := ?_) #[true, true, true, true, true, true, false, false, false, false, false, false, false, false, false, false, false, false, false, false, false, false, false, false, false, false, false, false, false, false, false, false, false, false, false, false, false, false, false, false, false, false, false, false, false, false, false, false, false, false, false, false] rfl rfl (any_of HT_.out (by kernel_rfl)) (fun _ _ _ h => h) (Or.inl ⟨by rfl, ?_⟩) ?_ ?_
                                 rotate_left
                                 ·intro w'
                                  go_simp
                                  with_reducible rfl
                                 rotate_left
                                 ·simp only [Act.put, List.setIfInBounds_toArray, List.set_cons_zero, List.set_cons_succ, i64_w, i32_w]
                                  rfl
                                 refine pure_ (i := 6) (N := some 122) (v := ?_) (a' := ?_) #[true, true, true, true, true, true, true, false, false, false, false, false, false, false, false, false, false, false, false, false, false, false, false, false, false, false, false, false, false, false, false, false, false, false, false, false, false, false, false, false, false, false, false, false, false, false, false, false, false, false, false, false] rfl rfl (any_of HT_.out (by kernel_rfl)) (fun _ _ _ h => h) (Or.inl ⟨by rfl, ?_⟩) ?_ ?_
                                 rotate_left
                                 ·intro w'
                                  go_simp
                                  with_reducible rfl
                                 rotate_left
                                 ·simp only [Act.put, List.setIfInBounds_toArray, List.set_cons_zero, List.set_cons_succ, i64_w, i32_w]
                                  rfl
                                 refine take_ (i := 7) (N := some 123) (v := ?_) (a' := ?_) #[true, true, true, true, true, true, true, true, false, false, false, false, false, false, false, false, false, false, false, false, false, false, false, false, false, false, false, false, false, false, false, false, false, false, false, false, false, false, false, false, false, false, false, false, false, false, false, false, false, false, false, false] rfl rfl (take_ofW HT_.out HW_.out (by kernel_rfl)) (fun _ _ _ h => h) (Or.inl ⟨by rfl, ?_⟩) hHeld ?_ ?_
                                 rotate_left
                                 ·rintro w' ⟨s0, s1, s2, s3, s4, s5⟩
                                  go_simp
                                  with_reducible rfl
                                 rotate_left
                                 ·simp only [Act.put, List.setIfInBounds_toArray, List.set_cons_zero, List.set_cons_succ, i64_w, i32_w]
                                  rfl
                                 refine take_ (i := 8) (N := some 124) (v := ?_) (a' := ?_) #[true, true, true, true, true, true, true, true, true, false, false, false, false, false, false, false, false, false, false, false, false, false, false, false, false, false, false, false, false, false, false, false, false, false, false, false, false, false, false, false, false, false, false, false, false, false, false, false, false, false, false, false] rfl rfl (take_ofW HT_.out HW_.out (by kernel_rfl)) (fun _ _ _ h => h) (Or.inl ⟨by rfl, ?_⟩) hHeld ?_ ?_
                                 rotate_left
                                 ·rintro w' ⟨s0, s1, s2, s3, s4, s5⟩
                                  go_simp
                                  with_reducible rfl
                                 rotate_left
                                 ·simp only [Act.put, List.setIfInBounds_toArray, List.set_cons_zero, List.set_cons_succ, i64_w, i32_w]
                                  rfl
                                 refine one_ (i := 9) (N := some 125) #[true, true, true, true, true, true, true, true, true, true, false, false, false, false, false, false, false, false, false, false, false, false, false, false, false, false, false, false, false, false, false, false, false, false, false, false, false, false, false, false, false, false, false, false, false, false, false, false, false, false, false, false] rfl rfl (one_of HT_.out (by kernel_rfl)) (by decide) (fun K hK => ?_)
                                 refine goes_ Try.func8 (by kernel_rfl) rfl #[.agg #[.bool t205, .slice Ao60 t206.length co60, .int .i64 t209], .agg #[.bool t212, .slice Ao65 t213.length co65, .int .i64 t216]] (by rfl) rfl rfl (by (try simp only [List.map_toArray, List.map_cons, List.map_nil]); first | done | rfl | (simp only [List.length_drop, List.length_take]; rfl)) ?_
                                 with_reducible refine (dec_Cmp.calls kj26 t205 _ _ t206 t209 t212 _ _ t213 t216 t226 _ ?side1 ?side2 ?side3 ?side4 A44.out).mono ?_
                                 (case side1 => repeat (first | exact (Kd.V_reads' HO208.out).2.2 | (with_reducible refine Kd.C_alloc ?_ _) | (with_reducible refine Kd.C_drewN ?_ _) | (with_reducible refine Kd.C_drew ?_)))
                                 (case side2 => exact (Kd.V_reads' HO208.out).2.1)
                                 (case side3 => repeat (first | exact (Kd.V_reads' HO215.out).2.2 | (with_reducible refine Kd.C_alloc ?_ _) | (with_reducible refine Kd.C_drewN ?_ _) | (with_reducible refine Kd.C_drew ?_)))
                                 (case side4 => exact (Kd.V_reads' HO215.out).2.1)
                                 rintro e w74 ⟨rfl, hb⟩
                                 refine ⟨_, rfl, ?_⟩
                                 have n0_ := Aside0.mk (Kd.V_below (S.v HO208.out) hb)
                                 have n1_ := Aside0.mk (Kd.V_below (S.v HO215.out) hb)
                                 have n2_ := Aside0.mk (Kd.V_below (S.v HO222.out) hb)
                                 have n3_ := Aside0.mk (blk_below (g := gb211) (o := .cells #[.bool t205, .slice Ao60 t206.length co60, .int .i64 t209] 25 (0, 0)) (S.b BK211.out) hb)
                                 have n4_ := Aside0.mk (blk_below (g := gb218) (o := .cells #[.bool t212, .slice Ao65 t213.length co65, .int .i64 t216] 25 (0, 0)) (S.b BK218.out) hb)
                                 have n5_ := Aside0.mk (blk_below (g := gb225) (o := .cells #[.bool t219, .slice Ao71 t220.length co71, .int .i64 t223] 25 (0, 0)) (S.b BK225.out) hb)
                                 have n6_ := Aside0.mk (below_step (by repeat (first | (with_reducible first | exact HB.out | apply below_alloc | apply pw_below_drewN | apply below_drew1 | refine below_set ?_ GE211.out | refine below_set ?_ GE218.out | refine below_set ?_ GE225.out) | exact HB.out)) hb)
                                 clear HO208
                                 clear HO215
                                 clear HO222
                                 clear BK211
                                 clear BK218
                                 clear BK225
                                 clear HB
                                 have HO208 := n0_
                                 have HO215 := n1_
                                 have HO222 := n2_
                                 have BK211 := n3_
                                 have BK218 := n4_
                                 have BK225 := n5_
                                 have HB := n6_
                                 clear n0_ n1_ n2_ n3_ n4_ n5_ n6_
                                 (try clear hb)
                                 (try clear hb2)
                                 (try clear hk)
                                 (try clear hi)
                                 refine hK.out _ _ ⟨(blk_cell BK211.out 0).trans rfl, (blk_cell BK211.out 1).trans rfl, (blk_cell BK211.out 2).trans rfl, (blk_cell BK218.out 0).trans rfl, (blk_cell BK218.out 1).trans rfl, (blk_cell BK218.out 2).trans rfl⟩ (fun hHeld => ?_)
                                 clear hK K
                                 refine norm_ (a' := ?_) ?_ ?_
                                 rotate_left
                                 ·show Act.put _ (some 125) _ = _
                                  simp only [Act.put, List.setIfInBounds_toArray, List.set_cons_zero, List.set_cons_succ, i64_w, i32_w]
                                  rfl
                                 refine pure_ (i := 10) (N := some 126) (v := ?_) (a' := ?_) #[true, true, true, true, true, true, true, true, true, true, true, false, false, false, false, false, false, false, false, false, false, false, false, false, false, false, false, false, false, false, false, false, false, false, false, false, false, false, false, false, false, false, false, false, false, false, false, false, false, false, false, false] rfl rfl (any_of HT_.out (by kernel_rfl)) (fun _ _ _ h => h) (Or.inl ⟨by rfl, ?_⟩) ?_ ?_
                                 rotate_left
                                 ·intro w'
                                  go_simp
                                  with_reducible rfl
                                 rotate_left
                                 ·simp only [Act.put, List.setIfInBounds_toArray, List.set_cons_zero, List.set_cons_succ, i64_w, i32_w]
                                  rfl
                                 refine pure_ (i := 11) (N := some 127) (v := ?_) (a' := ?_) #[true, true, true, true, true, true, true, true, true, true, true, true, false, false, false, false, false, false, false, false, false, false, false, false, false, false, false, false, false, false, false, false, false, false, false, false, false, false, false, false, false, false, false, false, false, false, false, false, false, false, false, false] rfl rfl (any_of HT_.out (by kernel_rfl)) (fun _ _ _ h => h) (Or.inl ⟨by rfl, ?_⟩) ?_ ?_
                                 rotate_left
                                 ·intro w'
                                  go_simp
                                  with_reducible rfl
                                 rotate_left
                                 ·simp only [Act.put, List.setIfInBounds_toArray, List.set_cons_zero, List.set_cons_succ, i64_w, i32_w]
                                  rfl
                                 refine pure_ (i := 12) (N := some 128) (v := ?_) (a' := ?_) #[true, true, true, true, true, true, true, true, true, true, true, true, true, false, false, false, false, false, false, false, false, false, false, false, false, false, false, false, false, false, false, false, false, false, false, false, false, false, false, false, false, false, false, false, false, false, false, false, false, false, false, false] rfl rfl (any_of HT_.out (by kernel_rfl)) (fun _ _ _ h => h) (Or.inl ⟨by rfl, ?_⟩) ?_ ?_
                                 rotate_left
                                 ·intro w'
                                  go_simp
                                  with_reducible rfl
                                 rotate_left
                                 ·simp only [Act.put, List.setIfInBounds_toArray, List.set_cons_zero, List.set_cons_succ, i64_w, i32_w]
                                  rfl
                                 refine take_ (i := 13) (N := some 129) (v := ?_) (a' := ?_) #[true, true, true, true, true, true, true, true, true, true, true, true, true, true, false, false, false, false, false, false, false, false, false, false, false, false, false, false, false, false, false, false, false, false, false, false, false, false, false, false, false, false, false, false, false, false, false, false, false, false, false, false] rfl rfl (take_ofW HT_.out HW_.out (by kernel_rfl)) (fun _ _ _ h => h) (Or.inl ⟨by rfl, ?_⟩) hHeld ?_ ?_
                                 rotate_left
                                 ·rintro w' ⟨s0, s1, s2, s3, s4, s5⟩
                                  go_simp
                                  with_reducible rfl
                                 rotate_left
                                 ·simp only [Act.put, List.setIfInBounds_toArray, List.set_cons_zero, List.set_cons_succ, i64_w, i32_w]
                                  rfl
                                 refine take_ (i := 15) (N := some 131) (v := ?_) (a' := ?_) #[true, true, true, true, true, true, true, true, true, true, true, true, true, true, false, true, false, false, false, false, false, false, false, false, false, false, false, false, false, false, false, false, false, false, false, false, false, false, false, false, false, false, false, false, false, false, false, false, false, false, false, false] rfl rfl (take_ofW HT_.out HW_.out (by kernel_rfl)) (fun _ _ _ h => h) (Or.inl ⟨by rfl, ?_⟩) hHeld ?_ ?_
                                 rotate_left
                                 ·rintro w' ⟨s0, s1, s2, s3, s4, s5⟩
                                  go_simp
                                  with_reducible rfl
                                 rotate_left
                                 ·simp only [Act.put, List.setIfInBounds_toArray, List.set_cons_zero, List.set_cons_succ, i64_w, i32_w]
                                  rfl
                                 refine one_ (i := 14) (N := some 130) #[true, true, true, true, true, true, true, true, true, true, true, true, true, true, true, true, false, false, false, false, false, false, false, false, false, false, false, false, false, false, false, false, false, false, false, false, false, false, false, false, false, false, false, false, false, false, false, false, false, false, false, false] rfl rfl (one_of HT_.out (by kernel_rfl)) (by decide) (fun K hK => ?_)
                                 refine goes_ Try.func9 (by kernel_rfl) rfl #[.agg #[.bool t205, .slice Ao60 t206.length co60, .int .i64 t209]] (by rfl) rfl rfl (by (try simp only [List.map_toArray, List.map_cons, List.map_nil]); first | done | rfl | (simp only [List.length_drop, List.length_take]; rfl)) ?_
                                 with_reducible refine (G.dec_Dec_Text.calls t205 _ _ t206 t209 t227 _ ?side1 ?side2 A46.out).mono ?_
                                 (case side1 => repeat (first | exact (Kd.V_reads' HO208.out).2.2 | (with_reducible refine Kd.C_alloc ?_ _) | (with_reducible refine Kd.C_drewN ?_ _) | (with_reducible refine Kd.C_drew ?_)))
                                 (case side2 => exact (Kd.V_reads' HO208.out).2.1)
                                 rintro e w75 ⟨rfl, hb⟩
                                 refine ⟨_, rfl, ?_⟩
                                 have n0_ := Aside0.mk (Kd.V_below (S.v HO208.out) hb)
                                 have n1_ := Aside0.mk (Kd.V_below (S.v HO215.out) hb)
                                 have n2_ := Aside0.mk (Kd.V_below (S.v HO222.out) hb)
                                 have n3_ := Aside0.mk (blk_below (g := gb211) (o := .cells #[.bool t205, .slice Ao60 t206.length co60, .int .i64 t209] 25 (0, 0)) (S.b BK211.out) hb)
                                 have n4_ := Aside0.mk (blk_below (g := gb218) (o := .cells #[.bool t212, .slice Ao65 t213.length co65, .int .i64 t216] 25 (0, 0)) (S.b BK218.out) hb)
                                 have n5_ := Aside0.mk (blk_below (g := gb225) (o := .cells #[.bool t219, .slice Ao71 t220.length co71, .int .i64 t223] 25 (0, 0)) (S.b BK225.out) hb)
                                 have n6_ := Aside0.mk (below_step (by repeat (first | (with_reducible first | exact HB.out | apply below_alloc | apply pw_below_drewN | apply below_drew1 | refine below_set ?_ GE211.out | refine below_set ?_ GE218.out | refine below_set ?_ GE225.out) | exact HB.out)) hb)
                                 clear HO208
                                 clear HO215
                                 clear HO222
                                 clear BK211
                                 clear BK218
                                 clear BK225
                                 clear HB
                                 have HO208 := n0_
                                 have HO215 := n1_
                                 have HO222 := n2_
                                 have BK211 := n3_
                                 have BK218 := n4_
                                 have BK225 := n5_
                                 have HB := n6_
                                 clear n0_ n1_ n2_ n3_ n4_ n5_ n6_
                                 (try clear hb)
                                 (try clear hb2)
                                 (try clear hk)
                                 (try clear hi)
                                 refine hK.out _ _ ⟨(blk_cell BK211.out 0).trans rfl, (blk_cell BK211.out 1).trans rfl, (blk_cell BK211.out 2).trans rfl, (blk_cell BK218.out 0).trans rfl, (blk_cell BK218.out 1).trans rfl, (blk_cell BK218.out 2).trans rfl⟩ (fun hHeld => ?_)
                                 clear hK K
                                 refine norm_ (a' := ?_) ?_ ?_
                                 rotate_left
                                 ·show Act.put _ (some 130) _ = _
                                  simp only [Act.put, List.setIfInBounds_toArray, List.set_cons_zero, List.set_cons_succ, i64_w, i32_w]
                                  rfl
                                 refine one_ (i := 16) (N := some 132) #[true, true, true, true, true, true, true, true, true, true, true, true, true, true, true, true, true, false, false, false, false, false, false, false, false, false, false, false, false, false, false, false, false, false, false, false, false, false, false, false, false, false, false, false, false, false, false, false, false, false, false, false] rfl rfl (one_of HT_.out (by kernel_rfl)) (by decide) (fun K hK => ?_)
                                 refine goes_ Try.func9 (by kernel_rfl) rfl #[.agg #[.bool t212, .slice Ao65 t213.length co65, .int .i64 t216]] (by rfl) rfl rfl (by (try simp only [List.map_toArray, List.map_cons, List.map_nil]); first | done | rfl | (simp only [List.length_drop, List.length_take]; rfl)) ?_
                                 with_reducible refine (G.dec_Dec_Text.calls t212 _ _ t213 t216 t228 _ ?side1 ?side2 A47.out).mono ?_
                                 (case side1 => repeat (first | exact (Kd.V_reads' HO215.out).2.2 | (with_reducible refine Kd.C_alloc ?_ _) | (with_reducible refine Kd.C_drewN ?_ _) | (with_reducible refine Kd.C_drew ?_)))
                                 (case side2 => exact (Kd.V_reads' HO215.out).2.1)
                                 rintro e w76 ⟨rfl, hb⟩
                                 refine ⟨_, rfl, ?_⟩
                                 have n0_ := Aside0.mk (Kd.V_below (S.v HO208.out) hb)
                                 have n1_ := Aside0.mk (Kd.V_below (S.v HO215.out) hb)
                                 have n2_ := Aside0.mk (Kd.V_below (S.v HO222.out) hb)
                                 have n3_ := Aside0.mk (blk_below (g := gb211) (o := .cells #[.bool t205, .slice Ao60 t206.length co60, .int .i64 t209] 25 (0, 0)) (S.b BK211.out) hb)
                                 have n4_ := Aside0.mk (blk_below (g := gb218) (o := .cells #[.bool t212, .slice Ao65 t213.length co65, .int .i64 t216] 25 (0, 0)) (S.b BK218.out) hb)
                                 have n5_ := Aside0.mk (blk_below (g := gb225) (o := .cells #[.bool t219, .slice Ao71 t220.length co71, .int .i64 t223] 25 (0, 0)) (S.b BK225.out) hb)
                                 have n6_ := Aside0.mk (below_step (by repeat (first | (with_reducible first | exact HB.out | apply below_alloc | apply pw_below_drewN | apply below_drew1 | refine below_set ?_ GE211.out | refine below_set ?_ GE218.out | refine below_set ?_ GE225.out) | exact HB.out)) hb)
                                 clear HO208
                                 clear HO215
                                 clear HO222
                                 clear BK211
                                 clear BK218
                                 clear BK225
                                 clear HB
                                 have HO208 := n0_
                                 have HO215 := n1_
                                 have HO222 := n2_
                                 have BK211 := n3_
                                 have BK218 := n4_
                                 have BK225 := n5_
                                 have HB := n6_
                                 clear n0_ n1_ n2_ n3_ n4_ n5_ n6_
                                 (try clear hb)
                                 (try clear hb2)
                                 (try clear hk)
                                 (try clear hi)
                                 refine hK.out _ _ ⟨(blk_cell BK211.out 0).trans rfl, (blk_cell BK211.out 1).trans rfl, (blk_cell BK211.out 2).trans rfl, (blk_cell BK218.out 0).trans rfl, (blk_cell BK218.out 1).trans rfl, (blk_cell BK218.out 2).trans rfl⟩ (fun hHeld => ?_)
                                 clear hK K
                                 refine norm_ (a' := ?_) ?_ ?_
                                 rotate_left
                                 ·show Act.put _ (some 132) _ = _
                                  simp only [Act.put, List.setIfInBounds_toArray, List.set_cons_zero, List.set_cons_succ, i64_w, i32_w]
                                  rfl
                                 refine pure_ (i := 17) (N := some 133) (v := ?_) (a' := ?_) #[true, true, true, true, true, true, true, true, true, true, true, true, true, true, true, true, true, true, false, false, false, false, false, false, false, false, false, false, false, false, false, false, false, false, false, false, false, false, false, false, false, false, false, false, false, false, false, false, false, false, false, false] rfl rfl (any_of HT_.out (by kernel_rfl)) (fun _ _ _ h => h) (Or.inl ⟨by rfl, ?_⟩) ?_ ?_
                                 rotate_left
                                 ·intro w'
                                  go_simp
                                  with_reducible rfl
                                 rotate_left
                                 ·simp only [Act.put, List.setIfInBounds_toArray, List.set_cons_zero, List.set_cons_succ, i64_w, i32_w]
                                  rfl
                                 refine pure_ (i := 18) (N := some 134) (v := ?_) (a' := ?_) #[true, true, true, true, true, true, true, true, true, true, true, true, true, true, true, true, true, true, true, false, false, false, false, false, false, false, false, false, false, false, false, false, false, false, false, false, false, false, false, false, false, false, false, false, false, false, false, false, false, false, false, false] rfl rfl (any_of HT_.out (by kernel_rfl)) (fun _ _ _ h => h) (Or.inl ⟨by rfl, ?_⟩) ?_ ?_
                                 rotate_left
                                 ·intro w'
                                  go_simp
                                  with_reducible rfl
                                 rotate_left
                                 ·simp only [Act.put, List.setIfInBounds_toArray, List.set_cons_zero, List.set_cons_succ, i64_w, i32_w]
                                  rfl
                                 refine pure_ (i := 19) (N := some 135) (v := ?_) (a' := ?_) #[true, true, true, true, true, true, true, true, true, true, true, true, true, true, true, true, true, true, true, true, false, false, false, false, false, false, false, false, false, false, false, false, false, false, false, false, false, false, false, false, false, false, false, false, false, false, false, false, false, false, false, false] rfl rfl (any_of HT_.out (by kernel_rfl)) (fun _ _ _ h => h) (Or.inl ⟨by rfl, ?_⟩) ?_ ?_
                                 rotate_left
                                 ·intro w'
                                  go_simp
                                  with_reducible rfl
                                 rotate_left
                                 ·simp only [Act.put, List.setIfInBounds_toArray, List.set_cons_zero, List.set_cons_succ, i64_w, i32_w]
                                  rfl
                                 refine take_ (i := 20) (N := some 136) (v := ?_) (a' := ?_) #[true, true, true, true, true, true, true, true, true, true, true, true, true, true, true, true, true, true, true, true, true, false, false, false, false, false, false, false, false, false, false, false, false, false, false, false, false, false, false, false, false, false, false, false, false, false, false, false, false, false, false, false] rfl rfl (take_ofW HT_.out HW_.out (by kernel_rfl)) (fun _ _ _ h => h) (Or.inl ⟨by rfl, ?_⟩) hHeld ?_ ?_
                                 rotate_left
                                 ·rintro w' ⟨s0, s1, s2, s3, s4, s5⟩
                                  go_simp
                                  with_reducible rfl
                                 rotate_left
                                 ·simp only [Act.put, List.setIfInBounds_toArray, List.set_cons_zero, List.set_cons_succ, i64_w, i32_w]
                                  rfl
                                 refine take_ (i := 22) (N := some 138) (v := ?_) (a' := ?_) #[true, true, true, true, true, true, true, true, true, true, true, true, true, true, true, true, true, true, true, true, true, false, true, false, false, false, false, false, false, false, false, false, false, false, false, false, false, false, false, false, false, false, false, false, false, false, false, false, false, false, false, false] rfl rfl (take_ofW HT_.out HW_.out (by kernel_rfl)) (fun _ _ _ h => h) (Or.inl ⟨by rfl, ?_⟩) hHeld ?_ ?_
                                 rotate_left
                                 ·rintro w' ⟨s0, s1, s2, s3, s4, s5⟩
                                  go_simp
                                  with_reducible rfl
                                 rotate_left
                                 ·simp only [Act.put, List.setIfInBounds_toArray, List.set_cons_zero, List.set_cons_succ, i64_w, i32_w]
                                  rfl
                                 refine one_ (i := 21) (N := some 137) #[true, true, true, true, true, true, true, true, true, true, true, true, true, true, true, true, true, true, true, true, true, true, true, false, false, false, false, false, false, false, false, false, false, false, false, false, false, false, false, false, false, false, false, false, false, false, false, false, false, false, false, false] rfl rfl (one_of HT_.out (by kernel_rfl)) (by decide) (fun K hK => ?_)
                                 refine goes_ Try.func10 (by kernel_rfl) rfl #[.agg #[.bool t205, .slice Ao60 t206.length co60, .int .i64 t209]] (by rfl) rfl rfl (by (try simp only [List.map_toArray, List.map_cons, List.map_nil]); first | done | rfl | (simp only [List.length_drop, List.length_take]; rfl)) ?_
                                 with_reducible refine (dec_Dec_Total.calls t205 _ _ t206 t209 t229 _ ?side1 ?side2 A49.out).mono ?_
                                 (case side1 => repeat (first | exact (Kd.V_reads' HO208.out).2.2 | (with_reducible refine Kd.C_alloc ?_ _) | (with_reducible refine Kd.C_drewN ?_ _) | (with_reducible refine Kd.C_drew ?_)))
                                 (case side2 => exact (Kd.V_reads' HO208.out).2.1)
                                 rintro e w77 ⟨rfl, hb⟩
                                 refine ⟨_, rfl, ?_⟩
                                 have n0_ := Aside0.mk (Kd.V_below (S.v HO208.out) hb)
                                 have n1_ := Aside0.mk (Kd.V_below (S.v HO215.out) hb)
                                 have n2_ := Aside0.mk (Kd.V_below (S.v HO222.out) hb)
                                 have n3_ := Aside0.mk (blk_below (g := gb211) (o := .cells #[.bool t205, .slice Ao60 t206.length co60, .int .i64 t209] 25 (0, 0)) (S.b BK211.out) hb)
                                 have n4_ := Aside0.mk (blk_below (g := gb218) (o := .cells #[.bool t212, .slice Ao65 t213.length co65, .int .i64 t216] 25 (0, 0)) (S.b BK218.out) hb)
                                 have n5_ := Aside0.mk (blk_below (g := gb225) (o := .cells #[.bool t219, .slice Ao71 t220.length co71, .int .i64 t223] 25 (0, 0)) (S.b BK225.out) hb)
                                 have n6_ := Aside0.mk (below_step (by repeat (first | (with_reducible first | exact HB.out | apply below_alloc | apply pw_below_drewN | apply below_drew1 | refine below_set ?_ GE211.out | refine below_set ?_ GE218.out | refine below_set ?_ GE225.out) | exact HB.out)) hb)
                                 clear HO208
                                 clear HO215
                                 clear HO222
                                 clear BK211
                                 clear BK218
                                 clear BK225
                                 clear HB
                                 have HO208 := n0_
                                 have HO215 := n1_
                                 have HO222 := n2_
                                 have BK211 := n3_
                                 have BK218 := n4_
                                 have BK225 := n5_
                                 have HB := n6_
                                 clear n0_ n1_ n2_ n3_ n4_ n5_ n6_
                                 (try clear hb)
                                 (try clear hb2)
                                 (try clear hk)
                                 (try clear hi)
                                 refine hK.out _ _ ⟨(blk_cell BK211.out 0).trans rfl, (blk_cell BK211.out 1).trans rfl, (blk_cell BK211.out 2).trans rfl, (blk_cell BK218.out 0).trans rfl, (blk_cell BK218.out 1).trans rfl, (blk_cell BK218.out 2).trans rfl⟩ (fun hHeld => ?_)
                                 clear hK K
                                 refine norm_ (a' := ?_) ?_ ?_
                                 rotate_left
                                 ·show Act.put _ (some 137) _ = _
                                  simp only [Act.put, List.setIfInBounds_toArray, List.set_cons_zero, List.set_cons_succ, i64_w, i32_w]
                                  rfl
                                 refine one_ (i := 23) (N := some 139) #[true, true, true, true, true, true, true, true, true, true, true, true, true, true, true, true, true, true, true, true, true, true, true, true, false, false, false, false, false, false, false, false, false, false, false, false, false, false, false, false, false, false, false, false, false, false, false, false, false, false, false, false] rfl rfl (one_of HT_.out (by kernel_rfl)) (by decide) (fun K hK => ?_)
                                 refine goes_ Try.func10 (by kernel_rfl) rfl #[.agg #[.bool t212, .slice Ao65 t213.length co65, .int .i64 t216]] (by rfl) rfl rfl (by (try simp only [List.map_toArray, List.map_cons, List.map_nil]); first | done | rfl | (simp only [List.length_drop, List.length_take]; rfl)) ?_
                                 with_reducible refine (dec_Dec_Total.calls t212 _ _ t213 t216 t230 _ ?side1 ?side2 A50.out).mono ?_
                                 (case side1 => repeat (first | exact (Kd.V_reads' HO215.out).2.2 | (with_reducible refine Kd.C_alloc ?_ _) | (with_reducible refine Kd.C_drewN ?_ _) | (with_reducible refine Kd.C_drew ?_)))
                                 (case side2 => exact (Kd.V_reads' HO215.out).2.1)
                                 rintro e w78 ⟨rfl, hb⟩
                                 refine ⟨_, rfl, ?_⟩
                                 have n0_ := Aside0.mk (Kd.V_below (S.v HO208.out) hb)
                                 have n1_ := Aside0.mk (Kd.V_below (S.v HO215.out) hb)
                                 have n2_ := Aside0.mk (Kd.V_below (S.v HO222.out) hb)
                                 have n3_ := Aside0.mk (blk_below (g := gb211) (o := .cells #[.bool t205, .slice Ao60 t206.length co60, .int .i64 t209] 25 (0, 0)) (S.b BK211.out) hb)
                                 have n4_ := Aside0.mk (blk_below (g := gb218) (o := .cells #[.bool t212, .slice Ao65 t213.length co65, .int .i64 t216] 25 (0, 0)) (S.b BK218.out) hb)
                                 have n5_ := Aside0.mk (blk_below (g := gb225) (o := .cells #[.bool t219, .slice Ao71 t220.length co71, .int .i64 t223] 25 (0, 0)) (S.b BK225.out) hb)
                                 have n6_ := Aside0.mk (below_step (by repeat (first | (with_reducible first | exact HB.out | apply below_alloc | apply pw_below_drewN | apply below_drew1 | refine below_set ?_ GE211.out | refine below_set ?_ GE218.out | refine below_set ?_ GE225.out) | exact HB.out)) hb)
                                 clear HO208
                                 clear HO215
                                 clear HO222
                                 clear BK211
                                 clear BK218
                                 clear BK225
                                 clear HB
                                 have HO208 := n0_
                                 have HO215 := n1_
                                 have HO222 := n2_
                                 have BK211 := n3_
                                 have BK218 := n4_
                                 have BK225 := n5_
                                 have HB := n6_
                                 clear n0_ n1_ n2_ n3_ n4_ n5_ n6_
                                 (try clear hb)
                                 (try clear hb2)
                                 (try clear hk)
                                 (try clear hi)
                                 refine hK.out _ _ ⟨(blk_cell BK211.out 0).trans rfl, (blk_cell BK211.out 1).trans rfl, (blk_cell BK211.out 2).trans rfl, (blk_cell BK218.out 0).trans rfl, (blk_cell BK218.out 1).trans rfl, (blk_cell BK218.out 2).trans rfl⟩ (fun hHeld => ?_)
                                 clear hK K
                                 refine norm_ (a' := ?_) ?_ ?_
                                 rotate_left
                                 ·show Act.put _ (some 139) _ = _
                                  simp only [Act.put, List.setIfInBounds_toArray, List.set_cons_zero, List.set_cons_succ, i64_w, i32_w]
                                  rfl
                                 refine pure_ (i := 24) (N := some 140) (v := ?_) (a' := ?_) #[true, true, true, true, true, true, true, true, true, true, true, true, true, true, true, true, true, true, true, true, true, true, true, true, true, false, false, false, false, false, false, false, false, false, false, false, false, false, false, false, false, false, false, false, false, false, false, false, false, false, false, false] rfl rfl (any_of HT_.out (by kernel_rfl)) (fun _ _ _ h => h) (Or.inl ⟨by rfl, ?_⟩) ?_ ?_
                                 rotate_left
                                 ·intro w'
                                  go_simp
                                  with_reducible rfl
                                 rotate_left
                                 ·simp only [Act.put, List.setIfInBounds_toArray, List.set_cons_zero, List.set_cons_succ, i64_w, i32_w]
                                  rfl
                                 refine pure_ (i := 25) (N := some 141) (v := ?_) (a' := ?_) #[true, true, true, true, true, true, true, true, true, true, true, true, true, true, true, true, true, true, true, true, true, true, true, true, true, true, false, false, false, false, false, false, false, false, false, false, false, false, false, false, false, false, false, false, false, false, false, false, false, false, false, false] rfl rfl (any_of HT_.out (by kernel_rfl)) (fun _ _ _ h => h) (Or.inl ⟨by rfl, ?_⟩) ?_ ?_
                                 rotate_left
                                 ·intro w'
                                  go_simp
                                  with_reducible rfl
                                 rotate_left
                                 ·simp only [Act.put, List.setIfInBounds_toArray, List.set_cons_zero, List.set_cons_succ, i64_w, i32_w]
                                  rfl
                                 refine pure_ (i := 26) (N := some 142) (v := ?_) (a' := ?_) #[true, true, true, true, true, true, true, true, true, true, true, true, true, true, true, true, true, true, true, true, true, true, true, true, true, true, true, false, false, false, false, false, false, false, false, false, false, false, false, false, false, false, false, false, false, false, false, false, false, false, false, false] rfl rfl (any_of HT_.out (by kernel_rfl)) (fun _ _ _ h => h) (Or.inl ⟨by rfl, ?_⟩) ?_ ?_
                                 rotate_left
                                 ·intro w'
                                  go_simp
                                  with_reducible rfl
                                 rotate_left
                                 ·simp only [Act.put, List.setIfInBounds_toArray, List.set_cons_zero, List.set_cons_succ, i64_w, i32_w]
                                  rfl
                                 refine take_ (i := 27) (N := some 143) (v := ?_) (a' := ?_) #[true, true, true, true, true, true, true, true, true, true, true, true, true, true, true, true, true, true, true, true, true, true, true, true, true, true, true, true, false, false, false, false, false, false, false, false, false, false, false, false, false, false, false, false, false, false, false, false, false, false, false, false] rfl rfl (take_ofW HT_.out HW_.out (by kernel_rfl)) (fun _ _ _ h => h) (Or.inl ⟨by rfl, ?_⟩) hHeld ?_ ?_
                                 rotate_left
                                 ·rintro w' ⟨s0, s1, s2, s3, s4, s5⟩
                                  go_simp
                                  with_reducible rfl
                                 rotate_left
                                 ·simp only [Act.put, List.setIfInBounds_toArray, List.set_cons_zero, List.set_cons_succ, i64_w, i32_w]
                                  rfl
                                 refine take_ (i := 29) (N := some 145) (v := ?_) (a' := ?_) #[true, true, true, true, true, true, true, true, true, true, true, true, true, true, true, true, true, true, true, true, true, true, true, true, true, true, true, true, false, true, false, false, false, false, false, false, false, false, false, false, false, false, false, false, false, false, false, false, false, false, false, false] rfl rfl (take_ofW HT_.out HW_.out (by kernel_rfl)) (fun _ _ _ h => h) (Or.inl ⟨by rfl, ?_⟩) hHeld ?_ ?_
                                 rotate_left
                                 ·rintro w' ⟨s0, s1, s2, s3, s4, s5⟩
                                  go_simp
                                  with_reducible rfl
                                 rotate_left
                                 ·simp only [Act.put, List.setIfInBounds_toArray, List.set_cons_zero, List.set_cons_succ, i64_w, i32_w]
                                  rfl
                                 refine one_ (i := 28) (N := some 144) #[true, true, true, true, true, true, true, true, true, true, true, true, true, true, true, true, true, true, true, true, true, true, true, true, true, true, true, true, true, true, false, false, false, false, false, false, false, false, false, false, false, false, false, false, false, false, false, false, false, false, false, false] rfl rfl (one_of HT_.out (by kernel_rfl)) (by decide) (fun K hK => ?_)
                                 refine goes_ Try.func11 (by kernel_rfl) rfl #[.agg #[.bool t205, .slice Ao60 t206.length co60, .int .i64 t209]] (by rfl) rfl rfl (by (try simp only [List.map_toArray, List.map_cons, List.map_nil]); first | done | rfl | (simp only [List.length_drop, List.length_take]; rfl)) ?_
                                 with_reducible refine (dec_Dec_Fraction.calls t205 _ _ t206 t209 t231 _ ?side1 ?side2 A52.out).mono ?_
                                 (case side1 => repeat (first | exact (Kd.V_reads' HO208.out).2.2 | (with_reducible refine Kd.C_alloc ?_ _) | (with_reducible refine Kd.C_drewN ?_ _) | (with_reducible refine Kd.C_drew ?_)))
                                 (case side2 => exact (Kd.V_reads' HO208.out).2.1)
                                 rintro e w79 ⟨rfl, hb⟩
                                 refine ⟨_, rfl, ?_⟩
                                 have n0_ := Aside0.mk (Kd.V_below (S.v HO208.out) hb)
                                 have n1_ := Aside0.mk (Kd.V_below (S.v HO215.out) hb)
                                 have n2_ := Aside0.mk (Kd.V_below (S.v HO222.out) hb)
                                 have n3_ := Aside0.mk (blk_below (g := gb211) (o := .cells #[.bool t205, .slice Ao60 t206.length co60, .int .i64 t209] 25 (0, 0)) (S.b BK211.out) hb)
                                 have n4_ := Aside0.mk (blk_below (g := gb218) (o := .cells #[.bool t212, .slice Ao65 t213.length co65, .int .i64 t216] 25 (0, 0)) (S.b BK218.out) hb)
                                 have n5_ := Aside0.mk (blk_below (g := gb225) (o := .cells #[.bool t219, .slice Ao71 t220.length co71, .int .i64 t223] 25 (0, 0)) (S.b BK225.out) hb)
                                 have n6_ := Aside0.mk (below_step (by repeat (first | (with_reducible first | exact HB.out | apply below_alloc | apply pw_below_drewN | apply below_drew1 | refine below_set ?_ GE211.out | refine below_set ?_ GE218.out | refine below_set ?_ GE225.out) | exact HB.out)) hb)
                                 clear HO208
                                 clear HO215
                                 clear HO222
                                 clear BK211
                                 clear BK218
                                 clear BK225
                                 clear HB
                                 have HO208 := n0_
                                 have HO215 := n1_
                                 have HO222 := n2_
                                 have BK211 := n3_
                                 have BK218 := n4_
                                 have BK225 := n5_
                                 have HB := n6_
                                 clear n0_ n1_ n2_ n3_ n4_ n5_ n6_
                                 (try clear hb)
                                 (try clear hb2)
                                 (try clear hk)
                                 (try clear hi)
                                 refine hK.out _ _ ⟨(blk_cell BK211.out 0).trans rfl, (blk_cell BK211.out 1).trans rfl, (blk_cell BK211.out 2).trans rfl, (blk_cell BK218.out 0).trans rfl, (blk_cell BK218.out 1).trans rfl, (blk_cell BK218.out 2).trans rfl⟩ (fun hHeld => ?_)
                                 clear hK K
                                 refine norm_ (a' := ?_) ?_ ?_
                                 rotate_left
                                 ·show Act.put _ (some 144) _ = _
                                  simp only [Act.put, List.setIfInBounds_toArray, List.set_cons_zero, List.set_cons_succ, i64_w, i32_w]
                                  rfl
                                 refine one_ (i := 30) (N := some 146) #[true, true, true, true, true, true, true, true, true, true, true, true, true, true, true, true, true, true, true, true, true, true, true, true, true, true, true, true, true, true, true, false, false, false, false, false, false, false, false, false, false, false, false, false, false, false, false, false, false, false, false, false] rfl rfl (one_of HT_.out (by kernel_rfl)) (by decide) (fun K hK => ?_)
                                 refine goes_ Try.func11 (by kernel_rfl) rfl #[.agg #[.bool t212, .slice Ao65 t213.length co65, .int .i64 t216]] (by rfl) rfl rfl (by (try simp only [List.map_toArray, List.map_cons, List.map_nil]); first | done | rfl | (simp only [List.length_drop, List.length_take]; rfl)) ?_
                                 with_reducible refine (dec_Dec_Fraction.calls t212 _ _ t213 t216 t232 _ ?side1 ?side2 A53.out).mono ?_
                                 (case side1 => repeat (first | exact (Kd.V_reads' HO215.out).2.2 | (with_reducible refine Kd.C_alloc ?_ _) | (with_reducible refine Kd.C_drewN ?_ _) | (with_reducible refine Kd.C_drew ?_)))
                                 (case side2 => exact (Kd.V_reads' HO215.out).2.1)
                                 rintro e w80 ⟨rfl, hb⟩
                                 refine ⟨_, rfl, ?_⟩
                                 have n0_ := Aside0.mk (Kd.V_below (S.v HO208.out) hb)
                                 have n1_ := Aside0.mk (Kd.V_below (S.v HO215.out) hb)
                                 have n2_ := Aside0.mk (Kd.V_below (S.v HO222.out) hb)
                                 have n3_ := Aside0.mk (blk_below (g := gb211) (o := .cells #[.bool t205, .slice Ao60 t206.length co60, .int .i64 t209] 25 (0, 0)) (S.b BK211.out) hb)
                                 have n4_ := Aside0.mk (blk_below (g := gb218) (o := .cells #[.bool t212, .slice Ao65 t213.length co65, .int .i64 t216] 25 (0, 0)) (S.b BK218.out) hb)
                                 have n5_ := Aside0.mk (blk_below (g := gb225) (o := .cells #[.bool t219, .slice Ao71 t220.length co71, .int .i64 t223] 25 (0, 0)) (S.b BK225.out) hb)
                                 have n6_ := Aside0.mk (below_step (by repeat (first | (with_reducible first | exact HB.out | apply below_alloc | apply pw_below_drewN | apply below_drew1 | refine below_set ?_ GE211.out | refine below_set ?_ GE218.out | refine below_set ?_ GE225.out) | exact HB.out)) hb)
                                 clear HO208
                                 clear HO215
                                 clear HO222
                                 clear BK211
                                 clear BK218
                                 clear BK225
                                 clear HB
                                 have HO208 := n0_
                                 have HO215 := n1_
                                 have HO222 := n2_
                                 have BK211 := n3_
                                 have BK218 := n4_
                                 have BK225 := n5_
                                 have HB := n6_
                                 clear n0_ n1_ n2_ n3_ n4_ n5_ n6_
                                 (try clear hb)
                                 (try clear hb2)
                                 (try clear hk)
                                 (try clear hi)
                                 refine hK.out _ _ ⟨(blk_cell BK211.out 0).trans rfl, (blk_cell BK211.out 1).trans rfl, (blk_cell BK211.out 2).trans rfl, (blk_cell BK218.out 0).trans rfl, (blk_cell BK218.out 1).trans rfl, (blk_cell BK218.out 2).trans rfl⟩ (fun hHeld => ?_)
                                 clear hK K
                                 refine norm_ (a' := ?_) ?_ ?_
                                 rotate_left
                                 ·show Act.put _ (some 146) _ = _
                                  simp only [Act.put, List.setIfInBounds_toArray, List.set_cons_zero, List.set_cons_succ, i64_w, i32_w]
                                  rfl
                                 refine pure_ (i := 31) (N := some 147) (v := ?_) (a' := ?_) #[true, true, true, true, true, true, true, true, true, true, true, true, true, true, true, true, true, true, true, true, true, true, true, true, true, true, true, true, true, true, true, true, false, false, false, false, false, false, false, false, false, false, false, false, false, false, false, false, false, false, false, false] rfl rfl (any_of HT_.out (by kernel_rfl)) (fun _ _ _ h => h) (Or.inl ⟨by rfl, ?_⟩) ?_ ?_
                                 rotate_left
                                 ·intro w'
                                  go_simp
                                  with_reducible rfl
                                 rotate_left
                                 ·simp only [Act.put, List.setIfInBounds_toArray, List.set_cons_zero, List.set_cons_succ, i64_w, i32_w]
                                  rfl
                                 refine pure_ (i := 32) (N := some 148) (v := ?_) (a' := ?_) #[true, true, true, true, true, true, true, true, true, true, true, true, true, true, true, true, true, true, true, true, true, true, true, true, true, true, true, true, true, true, true, true, true, false, false, false, false, false, false, false, false, false, false, false, false, false, false, false, false, false, false, false] rfl rfl (any_of HT_.out (by kernel_rfl)) (fun _ _ _ h => h) (Or.inl ⟨by rfl, ?_⟩) ?_ ?_
                                 rotate_left
                                 ·intro w'
                                  go_simp
                                  with_reducible rfl
                                 rotate_left
                                 ·simp only [Act.put, List.setIfInBounds_toArray, List.set_cons_zero, List.set_cons_succ, i64_w, i32_w]
                                  rfl
                                 refine pure_ (i := 33) (N := some 149) (v := ?_) (a' := ?_) #[true, true, true, true, true, true, true, true, true, true, true, true, true, true, true, true, true, true, true, true, true, true, true, true, true, true, true, true, true, true, true, true, true, true, false, false, false, false, false, false, false, false, false, false, false, false, false, false, false, false, false, false] rfl rfl (any_of HT_.out (by kernel_rfl)) (fun _ _ _ h => h) (Or.inl ⟨by rfl, ?_⟩) ?_ ?_
                                 rotate_left
                                 ·intro w'
                                  go_simp
                                  with_reducible rfl
                                 rotate_left
                                 ·simp only [Act.put, List.setIfInBounds_toArray, List.set_cons_zero, List.set_cons_succ, i64_w, i32_w]
                                  rfl
                                 refine pure_ (i := 34) (N := some 150) (v := ?_) (a' := ?_) #[true, true, true, true, true, true, true, true, true, true, true, true, true, true, true, true, true, true, true, true, true, true, true, true, true, true, true, true, true, true, true, true, true, true, true, false, false, false, false, false, false, false, false, false, false, false, false, false, false, false, false, false] rfl rfl (any_of HT_.out (by kernel_rfl)) (fun _ _ _ h => h) (Or.inl ⟨by rfl, ?_⟩) ?_ ?_
                                 rotate_left
                                 ·intro w'
                                  go_simp
                                  with_reducible rfl
                                 rotate_left
                                 ·simp only [Act.put, List.setIfInBounds_toArray, List.set_cons_zero, List.set_cons_succ, i64_w, i32_w]
                                  rfl
                                 refine pure_ (i := 35) (N := some 151) (v := ?_) (a' := ?_) #[true, true, true, true, true, true, true, true, true, true, true, true, true, true, true, true, true, true, true, true, true, true, true, true, true, true, true, true, true, true, true, true, true, true, true, true, false, false, false, false, false, false, false, false, false, false, false, false, false, false, false, false] rfl rfl (any_of HT_.out (by kernel_rfl)) (fun _ _ _ h => h) (Or.inl ⟨by rfl, ?_⟩) ?_ ?_
                                 rotate_left
                                 ·intro w'
                                  go_simp
                                  with_reducible rfl
                                 rotate_left
                                 ·simp only [Act.put, List.setIfInBounds_toArray, List.set_cons_zero, List.set_cons_succ, i64_w, i32_w]
                                  rfl
                                 refine pure_ (i := 36) (N := some 152) (v := ?_) (a' := ?_) #[true, true, true, true, true, true, true, true, true, true, true, true, true, true, true, true, true, true, true, true, true, true, true, true, true, true, true, true, true, true, true, true, true, true, true, true, true, false, false, false, false, false, false, false, false, false, false, false, false, false, false, false] rfl rfl (any_of HT_.out (by kernel_rfl)) (fun _ _ _ h => h) (Or.inl ⟨by rfl, ?_⟩) ?_ ?_
                                 rotate_left
                                 ·intro w'
                                  go_simp
                                  with_reducible rfl
                                 rotate_left
                                 ·simp only [Act.put, List.setIfInBounds_toArray, List.set_cons_zero, List.set_cons_succ, i64_w, i32_w]
                                  rfl
                                 refine pure_ (i := 37) (N := some 153) (v := ?_) (a' := ?_) #[true, true, true, true, true, true, true, true, true, true, true, true, true, true, true, true, true, true, true, true, true, true, true, true, true, true, true, true, true, true, true, true, true, true, true, true, true, true, false, false, false, false, false, false, false, false, false, false, false, false, false, false] rfl rfl (any_of HT_.out (by kernel_rfl)) (fun _ _ _ h => h) (Or.inl ⟨by rfl, ?_⟩) ?_ ?_
                                 rotate_left
                                 ·intro w'
                                  go_simp
                                  with_reducible rfl
                                 rotate_left
                                 ·simp only [Act.put, List.setIfInBounds_toArray, List.set_cons_zero, List.set_cons_succ, i64_w, i32_w]
                                  rfl
                                 refine pure_ (i := 38) (N := some 154) (v := undef) (a' := ?_) #[true, true, true, true, true, true, true, true, true, true, true, true, true, true, true, true, true, true, true, true, true, true, true, true, true, true, true, true, true, true, true, true, true, true, true, true, true, true, true, false, false, false, false, false, false, false, false, false, false, false, false, false] rfl rfl (any_of HT_.out (by kernel_rfl)) (fun _ _ _ h => h) (Or.inr ⟨by rfl, rfl⟩) ?_ ?_
                                 rotate_left
                                 ·simp only [Act.put, List.setIfInBounds_toArray, List.set_cons_zero, List.set_cons_succ, i64_w, i32_w]
                                  rfl
                                 refine pure_ (i := 39) (N := some 155) (v := undef) (a' := ?_) #[true, true, true, true, true, true, true, true, true, true, true, true, true, true, true, true, true, true, true, true, true, true, true, true, true, true, true, true, true, true, true, true, true, true, true, true, true, true, true, true, false, false, false, false, false, false, false, false, false, false, false, false] rfl rfl (any_of HT_.out (by kernel_rfl)) (fun _ _ _ h => h) (Or.inr ⟨by rfl, rfl⟩) ?_ ?_
                                 rotate_left
                                 ·simp only [Act.put, List.setIfInBounds_toArray, List.set_cons_zero, List.set_cons_succ, i64_w, i32_w]
                                  rfl
                                 refine pure_ (i := 40) (N := some 156) (v := undef) (a' := ?_) #[true, true, true, true, true, true, true, true, true, true, true, true, true, true, true, true, true, true, true, true, true, true, true, true, true, true, true, true, true, true, true, true, true, true, true, true, true, true, true, true, true, false, false, false, false, false, false, false, false, false, false, false] rfl rfl (any_of HT_.out (by kernel_rfl)) (fun _ _ _ h => h) (Or.inr ⟨by rfl, rfl⟩) ?_ ?_
                                 rotate_left
                                 ·simp only [Act.put, List.setIfInBounds_toArray, List.set_cons_zero, List.set_cons_succ, i64_w, i32_w]
                                  rfl
                                 refine pure_ (i := 41) (N := some 157) (v := undef) (a' := ?_) #[true, true, true, true, true, true, true, true, true, true, true, true, true, true, true, true, true, true, true, true, true, true, true, true, true, true, true, true, true, true, true, true, true, true, true, true, true, true, true, true, true, true, false, false, false, false, false, false, false, false, false, false] rfl rfl (any_of HT_.out (by kernel_rfl)) (fun _ _ _ h => h) (Or.inr ⟨by rfl, rfl⟩) ?_ ?_
                                 rotate_left
                                 ·simp only [Act.put, List.setIfInBounds_toArray, List.set_cons_zero, List.set_cons_succ, i64_w, i32_w]
                                  rfl
                                 refine pure_ (i := 42) (N := some 158) (v := ?_) (a' := ?_) #[true, true, true, true, true, true, true, true, true, true, true, true, true, true, true, true, true, true, true, true, true, true, true, true, true, true, true, true, true, true, true, true, true, true, true, true, true, true, true, true, true, true, true, false, false, false, false, false, false, false, false, false] rfl rfl (any_of HT_.out (by kernel_rfl)) (fun _ _ _ h => h) (Or.inl ⟨by rfl, ?_⟩) ?_ ?_
                                 rotate_left
                                 ·intro w'
                                  go_simp
                                  with_reducible rfl
                                 rotate_left
                                 ·simp only [Act.put, List.setIfInBounds_toArray, List.set_cons_zero, List.set_cons_succ, i64_w, i32_w]
                                  rfl
                                 refine pure_ (i := 43) (N := some 159) (v := ?_) (a' := ?_) #[true, true, true, true, true, true, true, true, true, true, true, true, true, true, true, true, true, true, true, true, true, true, true, true, true, true, true, true, true, true, true, true, true, true, true, true, true, true, true, true, true, true, true, true, false, false, false, false, false, false, false, false] rfl rfl (any_of HT_.out (by kernel_rfl)) (fun _ _ _ h => h) (Or.inl ⟨by rfl, ?_⟩) ?_ ?_
                                 rotate_left
                                 ·intro w'
                                  go_simp
                                  with_reducible rfl
                                 rotate_left
                                 ·simp only [Act.put, List.setIfInBounds_toArray, List.set_cons_zero, List.set_cons_succ, i64_w, i32_w]
                                  rfl
                                 refine pure_ (i := 44) (N := some 160) (v := ?_) (a' := ?_) #[true, true, true, true, true, true, true, true, true, true, true, true, true, true, true, true, true, true, true, true, true, true, true, true, true, true, true, true, true, true, true, true, true, true, true, true, true, true, true, true, true, true, true, true, true, false, false, false, false, false, false, false] rfl rfl (any_of HT_.out (by kernel_rfl)) (fun _ _ _ h => h) (Or.inl ⟨by rfl, ?_⟩) ?_ ?_
                                 rotate_left
                                 ·intro w'
                                  go_simp
                                  with_reducible rfl
                                 rotate_left
                                 ·simp only [Act.put, List.setIfInBounds_toArray, List.set_cons_zero, List.set_cons_succ, i64_w, i32_w]
                                  rfl
                                 refine pure_ (i := 47) (N := some 163) (v := ?_) (a' := ?_) #[true, true, true, true, true, true, true, true, true, true, true, true, true, true, true, true, true, true, true, true, true, true, true, true, true, true, true, true, true, true, true, true, true, true, true, true, true, true, true, true, true, true, true, true, true, false, false, true, false, false, false, false] rfl rfl (any_of HT_.out (by kernel_rfl)) (fun _ _ _ h => h) (Or.inl ⟨by rfl, ?_⟩) ?_ ?_
                                 rotate_left
                                 ·intro w'
                                  go_simp
                                  with_reducible rfl
                                 rotate_left
                                 ·simp only [Act.put, List.setIfInBounds_toArray, List.set_cons_zero, List.set_cons_succ, i64_w, i32_w]
                                  rfl
                                 refine pure_ (i := 48) (N := some 164) (v := ?_) (a' := ?_) #[true, true, true, true, true, true, true, true, true, true, true, true, true, true, true, true, true, true, true, true, true, true, true, true, true, true, true, true, true, true, true, true, true, true, true, true, true, true, true, true, true, true, true, true, true, false, false, true, true, false, false, false] rfl rfl (any_of HT_.out (by kernel_rfl)) (fun _ _ _ h => h) (Or.inl ⟨by rfl, ?_⟩) ?_ ?_
                                 rotate_left
                                 ·intro w'
                                  go_simp
                                  with_reducible rfl
                                 rotate_left
                                 ·simp only [Act.put, List.setIfInBounds_toArray, List.set_cons_zero, List.set_cons_succ, i64_w, i32_w]
                                  rfl
                                 refine take_ (i := 45) (N := some 161) (v := ?_) (a' := ?_) #[true, true, true, true, true, true, true, true, true, true, true, true, true, true, true, true, true, true, true, true, true, true, true, true, true, true, true, true, true, true, true, true, true, true, true, true, true, true, true, true, true, true, true, true, true, true, false, true, true, false, false, false] rfl rfl (take_ofW HT_.out HW_.out (by kernel_rfl)) (fun _ _ _ h => h) (Or.inl ⟨by rfl, ?_⟩) hHeld ?_ ?_
                                 rotate_left
                                 ·rintro w' ⟨s0, s1, s2, s3, s4, s5⟩
                                  go_simp
                                  with_reducible rfl
                                 rotate_left
                                 ·simp only [Act.put, List.setIfInBounds_toArray, List.set_cons_zero, List.set_cons_succ, i64_w, i32_w]
                                  rfl
                                 refine one_ (i := 46) (N := some 162) #[true, true, true, true, true, true, true, true, true, true, true, true, true, true, true, true, true, true, true, true, true, true, true, true, true, true, true, true, true, true, true, true, true, true, true, true, true, true, true, true, true, true, true, true, true, true, true, true, true, false, false, false] rfl rfl (one_of HT_.out (by kernel_rfl)) (by decide) (fun K hK => ?_)
                                 refine goes_ Try.func11 (by kernel_rfl) rfl #[.agg #[.bool t205, .slice Ao60 t206.length co60, .int .i64 t209]] (by rfl) rfl rfl (by (try simp only [List.map_toArray, List.map_cons, List.map_nil]); first | done | rfl | (simp only [List.length_drop, List.length_take]; rfl)) ?_
                                 with_reducible refine (dec_Dec_Fraction.calls t205 _ _ t206 t209 t233 _ ?side1 ?side2 A56.out).mono ?_
                                 (case side1 => repeat (first | exact (Kd.V_reads' HO208.out).2.2 | (with_reducible refine Kd.C_alloc ?_ _) | (with_reducible refine Kd.C_drewN ?_ _) | (with_reducible refine Kd.C_drew ?_)))
                                 (case side2 => exact (Kd.V_reads' HO208.out).2.1)
                                 rintro e w81 ⟨rfl, hb⟩
                                 refine ⟨_, rfl, ?_⟩
                                 have n0_ := Aside0.mk (Kd.V_below (S.v HO208.out) hb)
                                 have n1_ := Aside0.mk (Kd.V_below (S.v HO215.out) hb)
                                 have n2_ := Aside0.mk (Kd.V_below (S.v HO222.out) hb)
                                 have n3_ := Aside0.mk (blk_below (g := gb211) (o := .cells #[.bool t205, .slice Ao60 t206.length co60, .int .i64 t209] 25 (0, 0)) (S.b BK211.out) hb)
                                 have n4_ := Aside0.mk (blk_below (g := gb218) (o := .cells #[.bool t212, .slice Ao65 t213.length co65, .int .i64 t216] 25 (0, 0)) (S.b BK218.out) hb)
                                 have n5_ := Aside0.mk (blk_below (g := gb225) (o := .cells #[.bool t219, .slice Ao71 t220.length co71, .int .i64 t223] 25 (0, 0)) (S.b BK225.out) hb)
                                 have n6_ := Aside0.mk (below_step (by repeat (first | (with_reducible first | exact HB.out | apply below_alloc | apply pw_below_drewN | apply below_drew1 | refine below_set ?_ GE211.out | refine below_set ?_ GE218.out | refine below_set ?_ GE225.out) | exact HB.out)) hb)
                                 clear HO208
                                 clear HO215
                                 clear HO222
                                 clear BK211
                                 clear BK218
                                 clear BK225
                                 clear HB
                                 have HO208 := n0_
                                 have HO215 := n1_
                                 have HO222 := n2_
                                 have BK211 := n3_
                                 have BK218 := n4_
                                 have BK225 := n5_
                                 have HB := n6_
                                 clear n0_ n1_ n2_ n3_ n4_ n5_ n6_
                                 (try clear hb)
                                 (try clear hb2)
                                 (try clear hk)
                                 (try clear hi)
                                 refine hK.out _ _ ⟨(blk_cell BK211.out 0).trans rfl, (blk_cell BK211.out 1).trans rfl, (blk_cell BK211.out 2).trans rfl, (blk_cell BK218.out 0).trans rfl, (blk_cell BK218.out 1).trans rfl, (blk_cell BK218.out 2).trans rfl⟩ (fun hHeld => ?_)
                                 clear hK K
                                 refine norm_ (a' := ?_) ?_ ?_
                                 rotate_left
                                 ·show Act.put _ (some 162) _ = _
                                  simp only [Act.put, List.setIfInBounds_toArray, List.set_cons_zero, List.set_cons_succ, i64_w, i32_w]
                                  rfl
                                 refine pure_ (i := 49) (N := some 165) (v := ?_) (a' := ?_) #[true, true, true, true, true, true, true, true, true, true, true, true, true, true, true, true, true, true, true, true, true, true, true, true, true, true, true, true, true, true, true, true, true, true, true, true, true, true, true, true, true, true, true, true, true, true, true, true, true, true, false, false] rfl rfl (any_of HT_.out (by kernel_rfl)) (fun _ _ _ h => h) (Or.inl ⟨by rfl, ?_⟩) ?_ ?_
                                 rotate_left
                                 ·intro w'
                                  go_simp
                                  with_reducible rfl
                                 rotate_left
                                 ·simp only [Act.put, List.setIfInBounds_toArray, List.set_cons_zero, List.set_cons_succ, i64_w, i32_w]
                                  rfl
                                 refine pure_ (i := 50) (N := some 166) (v := ?_) (a' := ?_) #[true, true, true, true, true, true, true, true, true, true, true, true, true, true, true, true, true, true, true, true, true, true, true, true, true, true, true, true, true, true, true, true, true, true, true, true, true, true, true, true, true, true, true, true, true, true, true, true, true, true, true, false] rfl rfl (any_of HT_.out (by kernel_rfl)) (fun _ _ _ h => h) (Or.inl ⟨by rfl, ?_⟩) ?_ ?_
                                 rotate_left
                                 ·intro w'
                                  go_simp
                                  with_reducible rfl
                                 rotate_left
                                 ·simp only [Act.put, List.setIfInBounds_toArray, List.set_cons_zero, List.set_cons_succ, i64_w, i32_w]
                                  rfl
                                 refine pure_ (i := 51) (N := some 8) (v := ?_) (a' := ?_) #[true, true, true, true, true, true, true, true, true, true, true, true, true, true, true, true, true, true, true, true, true, true, true, true, true, true, true, true, true, true, true, true, true, true, true, true, true, true, true, true, true, true, true, true, true, true, true, true, true, true, true, true] rfl rfl (any_of HT_.out (by kernel_rfl)) (fun _ _ _ h => h) (Or.inl ⟨by rfl, ?_⟩) ?_ ?_
                                 rotate_left
                                 ·intro w'
                                  go_simp
                                  with_reducible rfl
                                 rotate_left
                                 ·simp only [Act.put, List.setIfInBounds_toArray, List.set_cons_zero, List.set_cons_succ, i64_w, i32_w]
                                  rfl
                                 refine done_ (done_of HT_.out (by kernel_rfl)) ?_
                                 try go_wp2
                                 go_ret
                                 exact ⟨by first | rfl | (simp [errW_none, errW_some] <;> rfl) | (simp [*, errW_none, errW_some] <;> rfl), by repeat (first | (with_reducible first | exact HB.out | apply below_alloc | apply pw_below_drewN | apply below_drew1 | refine below_set ?_ GE211.out | refine below_set ?_ GE218.out | refine below_set ?_ GE225.out) | exact HB.out)⟩
                                ·rw [if_neg c55] at H
                                 have c55b0 : decide (0 < (l1.length : Int)) = false := decide_eq_false c55
                                 have c55b1 : decide (0 < l1.length) = false := decide_eq_false (by omega)
                                 clear c55
                                 replace H := Option.bind_eq_some_iff.mp H
                                 obtain ⟨t234, A820, H⟩ := H
                                 replace H : (if t234 = 0 then ((dec_Dec_Fraction.f t205 t206 t209).bind fun t235 => (some (decide (t235 ≤ (l1.length : Int))))) else (some false)) = some r := H
                                 have A82 := Aside0.mk A820
                                 clear A820
                                 by_cases c83 : t234 = 0
                                 ·rw [if_pos c83] at H
                                  have c83b0 : (t234 == 0) = true := beq_iff_eq.mpr c83
                                  have c83b1 : (t234 != 0) = false := bne_eq_false_iff_eq.mpr c83
                                  clear c83
                                  replace H := Option.bind_eq_some_iff.mp H
                                  obtain ⟨t235, A840, H⟩ := H
                                  replace H : (some (decide (t235 ≤ (l1.length : Int)))) = some r := H
                                  have A84 := Aside0.mk A840
                                  clear A840
                                  obtain rfl := Option.some.inj H
                                  try go_wp2_with (first | ((with_reducible refine gate_callee (f := 7) rfl ?_); refine goesL_ (some 88) rfl rfl Try.func7 (by kernel_rfl) rfl #[.string ((((x15_26 ++ (⟨#[48]⟩ : ByteArray)) ++ x9_2) ++ (⟨#[46]⟩ : ByteArray)) ++ x10_3)] rfl (by (try simp only [List.map_toArray, List.map_cons, List.map_nil]); first | done | rfl | (simp only [List.length_drop, List.length_take]; rfl)) ?_; (with_reducible refine (dec_Parse.calls kj26 ((((x15_26 ++ (⟨#[48]⟩ : ByteArray)) ++ x9_2) ++ (⟨#[46]⟩ : ByteArray)) ++ x10_3) t205 t206 t209 t210 _ A33.out).mono ?_); rintro e w85 ⟨v207, rfl, ho0, hb⟩; refine ⟨_, rfl, ?_⟩; have n0_ := Aside0.mk (Kd.V_lower (Kd.V_mono (ok' := fun k_ => True) ho0 (fun k_ hk_ => trivial)) (below_size (by repeat (first | (with_reducible first | exact HB.out | apply below_alloc | apply pw_below_drewN | apply below_drew1) | exact HB.out)))); have n1_ := Aside0.mk (below_step (by repeat (first | (with_reducible first | exact HB.out | apply below_alloc | apply pw_below_drewN | apply below_drew1) | exact HB.out)) hb); clear HB; have HO208 := n0_; have HB := n1_; clear n0_ n1_; (try clear hb); (try clear hb2); (try clear hk); (try clear hi); (try clear ho0)) | ((with_reducible refine gate_dst (N := 16) rfl ?_); (try (refine gate_guard (by rfl) ?_; dsimp only)); refine box_event ?hg (N := 16) ?hd (cs := #[.bool false, .slice none 0 0, .int .i64 0]) (t := 25) ?hr ?_; (case hd => rfl); (case hg => rfl); (case hr => first | (go_simp; done) | (go_simp; rfl)); intro gb211 hg w86 hbox hb; have n0_ := Aside0.mk (Kd.V_below (Kd.V_elderB (S.v HO208.out) gb211 (Nat.le_of_eq hg.symm)) hb); have n1_ := Aside0.mk (below_step (by repeat (first | (with_reducible first | exact HB.out | apply below_alloc | apply pw_below_drewN | apply below_drew1) | exact HB.out)) hb); have n2_ := Aside0.mk (hbox); have n3_ := Aside0.mk ((by rw [hg]; exact (below_size (by repeat (first | (with_reducible first | exact HB.out | apply below_alloc | apply pw_below_drewN | apply below_drew1) | exact HB.out))) : w.heap.size ≤ gb211)); have n4_ := Aside0.mk ((by rw [hg]; exact (below_size (by repeat (first | (with_reducible first | exact HB.out | apply below_alloc | apply pw_below_drewN | apply below_drew1) | exact HB.out))) : w.heap.size ≤ gb211)); clear HO208; clear HB; have HO208 := n0_; have HB := n1_; have BK211 := n2_; have GW211 := n3_; have GE211 := n4_; clear n0_ n1_ n2_ n3_ n4_; clear hb hbox hg; have hcz87_0 : w86.cell? ⟨gb211, 0, none⟩ = some (.bool false) := (blk_cell BK211.out 0).trans rfl; have hcz87_1 : w86.cell? ⟨gb211, 1, none⟩ = some (.slice none 0 0) := (blk_cell BK211.out 1).trans rfl; have hcz87_2 : w86.cell? ⟨gb211, 2, none⟩ = some (.int .i64 0) := (blk_cell BK211.out 2).trans rfl; have hfz87_0 := blk_frozen BK211.out 0; have hfz87_1 := blk_frozen BK211.out 1; have hfz87_2 := blk_frozen BK211.out 2; obtain ⟨Ao88, co88, eo88⟩ := Kd.V_slice HO208.out; subst eo88) | ((with_reducible refine gate_callee (f := 7) rfl ?_); refine goesL_ (some 103) rfl rfl Try.func7 (by kernel_rfl) rfl #[.string ((((((x15_26 ++ x11_4) ++ (⟨#[48]⟩ : ByteArray)) ++ x9_2) ++ (⟨#[46]⟩ : ByteArray)) ++ x10_3) ++ x11_4)] rfl (by (try simp only [List.map_toArray, List.map_cons, List.map_nil]); first | done | rfl | (simp only [List.length_drop, List.length_take]; rfl)) ?_; (with_reducible refine (dec_Parse.calls kj26 ((((((x15_26 ++ x11_4) ++ (⟨#[48]⟩ : ByteArray)) ++ x9_2) ++ (⟨#[46]⟩ : ByteArray)) ++ x10_3) ++ x11_4) t212 t213 t216 t217 _ A40.out).mono ?_); rintro e w89 ⟨v214, rfl, ho0, hb⟩; refine ⟨_, rfl, ?_⟩; have n0_ := Aside0.mk (Kd.V_below (by (with_reducible repeat (first | apply Kd.V_alloc | apply Kd.V_drewN | apply Kd.V_drew)); exact (Kd.V_mono (Kd.V_far (p := ⟨gb211, 2, none⟩) (Kd.V_far (p := ⟨gb211, 1, none⟩) (Kd.V_far (p := ⟨gb211, 0, none⟩) (Kd.V_mono HO208.out (fun k_ hk => (⟨hk, hk.2⟩ : _ ∧ k_ ≠ gb211))) (fun _ hk => hk.2) (.bool t205)) (fun _ hk => hk.2) (.slice Ao88 t206.length co88)) (fun _ hk => hk.2) (.int .i64 t209)) (fun _ h_ => h_.1))) hb); have n1_ := Aside0.mk (Kd.V_lower (Kd.V_mono (ok' := fun k_ => k_ ≠ gb211) ho0 (fun k_ hk_ => (Kd.freshB (g := gb211) (o := .cells #[.bool t205, .slice Ao88 t206.length co88, .int .i64 t209] 25 (0, 0)) (by (with_reducible repeat (first | refine blk_drewN ?_ _ | refine blk_drew ?_ | refine blk_alloc ?_ _)); refine blk_put (cs := #[.bool t205, .slice Ao88 t206.length co88, .int .i64 0]) ?_ 2 _ rfl; (with_reducible repeat (first | refine blk_drewN ?_ _ | refine blk_drew ?_ | refine blk_alloc ?_ _)); refine blk_put (cs := #[.bool t205, .slice none 0 0, .int .i64 0]) ?_ 1 _ rfl; (with_reducible repeat (first | refine blk_drewN ?_ _ | refine blk_drew ?_ | refine blk_alloc ?_ _)); refine blk_put (cs := #[.bool false, .slice none 0 0, .int .i64 0]) ?_ 0 _ rfl; (with_reducible repeat (first | refine blk_drewN ?_ _ | refine blk_drew ?_ | refine blk_alloc ?_ _)); exact BK211.out) k_ hk_))) (below_size (by repeat (first | (with_reducible first | exact HB.out | apply below_alloc | apply pw_below_drewN | apply below_drew1 | refine below_set ?_ GE211.out) | exact HB.out)))); have n2_ := Aside0.mk (blk_below (g := gb211) (o := .cells #[.bool t205, .slice Ao88 t206.length co88, .int .i64 t209] 25 (0, 0)) (by (with_reducible repeat (first | refine blk_drewN ?_ _ | refine blk_drew ?_ | refine blk_alloc ?_ _)); refine blk_put (cs := #[.bool t205, .slice Ao88 t206.length co88, .int .i64 0]) ?_ 2 _ rfl; (with_reducible repeat (first | refine blk_drewN ?_ _ | refine blk_drew ?_ | refine blk_alloc ?_ _)); refine blk_put (cs := #[.bool t205, .slice none 0 0, .int .i64 0]) ?_ 1 _ rfl; (with_reducible repeat (first | refine blk_drewN ?_ _ | refine blk_drew ?_ | refine blk_alloc ?_ _)); refine blk_put (cs := #[.bool false, .slice none 0 0, .int .i64 0]) ?_ 0 _ rfl; (with_reducible repeat (first | refine blk_drewN ?_ _ | refine blk_drew ?_ | refine blk_alloc ?_ _)); exact BK211.out) hb); have n3_ := Aside0.mk (below_step (by repeat (first | (with_reducible first | exact HB.out | apply below_alloc | apply pw_below_drewN | apply below_drew1 | refine below_set ?_ GE211.out) | exact HB.out)) hb); clear HO208; clear BK211; clear HB; have HO208 := n0_; have HO215 := n1_; have BK211 := n2_; have HB := n3_; clear n0_ n1_ n2_ n3_; (try clear hb); (try clear hb2); (try clear hk); (try clear hi); (try clear ho0)) | ((with_reducible refine gate_dst (N := 18) rfl ?_); (try (refine gate_guard (by rfl) ?_; dsimp only)); refine box_event ?hg (N := 18) ?hd (cs := #[.bool false, .slice none 0 0, .int .i64 0]) (t := 25) ?hr ?_; (case hd => rfl); (case hg => rfl); (case hr => first | (go_simp; done) | (go_simp; rfl)); intro gb218 hg w90 hbox hb; have n0_ := Aside0.mk (Kd.V_below (Kd.V_elderB (S.v HO208.out) gb218 (Nat.le_of_eq hg.symm)) hb); have n1_ := Aside0.mk (Kd.V_below (Kd.V_elderB (S.v HO215.out) gb218 (Nat.le_of_eq hg.symm)) hb); have n2_ := Aside0.mk (blk_below (g := gb211) (o := .cells #[.bool t205, .slice Ao88 t206.length co88, .int .i64 t209] 25 (0, 0)) (S.b BK211.out) hb); have n3_ := Aside0.mk (below_step (by repeat (first | (with_reducible first | exact HB.out | apply below_alloc | apply pw_below_drewN | apply below_drew1 | refine below_set ?_ GE211.out) | exact HB.out)) hb); have n4_ := Aside0.mk (hbox); have n5_ := Aside0.mk ((by rw [hg]; exact (below_size (by repeat (first | (with_reducible first | exact HB.out | apply below_alloc | apply pw_below_drewN | apply below_drew1 | refine below_set ?_ GE211.out) | exact HB.out))) : w.heap.size ≤ gb218)); have n6_ := Aside0.mk ((by rw [hg]; exact (below_size (by repeat (first | (with_reducible first | exact HB.out | apply below_alloc | apply pw_below_drewN | apply below_drew1 | refine below_set ?_ GE211.out) | exact HB.out))) : w.heap.size ≤ gb218)); have n7_ := Aside0.mk ((by rw [hg]; exact Nat.ne_of_lt (blk_lt (g := gb211) (o := .cells #[.bool t205, .slice Ao88 t206.length co88, .int .i64 t209] 25 (0, 0)) (S.b BK211.out)) : gb211 ≠ gb218)); have n8_ := Aside0.mk ((by rw [hg]; exact Nat.ne_of_gt (blk_lt (g := gb211) (o := .cells #[.bool t205, .slice Ao88 t206.length co88, .int .i64 t209] 25 (0, 0)) (S.b BK211.out)) : gb218 ≠ gb211)); clear HO208; clear HO215; clear BK211; clear HB; have HO208 := n0_; have HO215 := n1_; have BK211 := n2_; have HB := n3_; have BK218 := n4_; have GW218 := n5_; have GE218 := n6_; have NB211_218 := n7_; have NB218_211 := n8_; clear n0_ n1_ n2_ n3_ n4_ n5_ n6_ n7_ n8_; clear hb hbox hg; have hnb91 := NB218_211.out; have hnc91 := NB211_218.out; have hcz92_0 : w90.cell? ⟨gb218, 0, none⟩ = some (.bool false) := (blk_cell BK218.out 0).trans rfl; have hcz92_1 : w90.cell? ⟨gb218, 1, none⟩ = some (.slice none 0 0) := (blk_cell BK218.out 1).trans rfl; have hcz92_2 : w90.cell? ⟨gb218, 2, none⟩ = some (.int .i64 0) := (blk_cell BK218.out 2).trans rfl; have hfz92_0 := blk_frozen BK218.out 0; have hfz92_1 := blk_frozen BK218.out 1; have hfz92_2 := blk_frozen BK218.out 2; obtain ⟨Ao93, co93, eo93⟩ := Kd.V_slice HO215.out; subst eo93) | ((with_reducible refine gate_callee (f := 7) rfl ?_); refine goesL_ (some 113) rfl rfl Try.func7 (by kernel_rfl) rfl #[.string (((x15_26 ++ (⟨#[48]⟩ : ByteArray)) ++ x9_2) ++ x10_3)] rfl (by (try simp only [List.map_toArray, List.map_cons, List.map_nil]); first | done | rfl | (simp only [List.length_drop, List.length_take]; rfl)) ?_; (with_reducible refine (dec_Parse.calls kj26 (((x15_26 ++ (⟨#[48]⟩ : ByteArray)) ++ x9_2) ++ x10_3) t219 t220 t223 t224 _ A42.out).mono ?_); rintro e w94 ⟨v221, rfl, ho0, hb⟩; refine ⟨_, rfl, ?_⟩; have n0_ := Aside0.mk (Kd.V_below (by (with_reducible repeat (first | apply Kd.V_alloc | apply Kd.V_drewN | apply Kd.V_drew)); exact (Kd.V_mono (Kd.V_far (p := ⟨gb218, 2, none⟩) (Kd.V_far (p := ⟨gb218, 1, none⟩) (Kd.V_far (p := ⟨gb218, 0, none⟩) (Kd.V_mono HO208.out (fun k_ hk => (⟨hk, hk.2⟩ : _ ∧ k_ ≠ gb218))) (fun _ hk => hk.2) (.bool t212)) (fun _ hk => hk.2) (.slice Ao93 t213.length co93)) (fun _ hk => hk.2) (.int .i64 t216)) (fun _ h_ => h_.1))) hb); have n1_ := Aside0.mk (Kd.V_below (by (with_reducible repeat (first | apply Kd.V_alloc | apply Kd.V_drewN | apply Kd.V_drew)); exact (Kd.V_mono (Kd.V_far (p := ⟨gb218, 2, none⟩) (Kd.V_far (p := ⟨gb218, 1, none⟩) (Kd.V_far (p := ⟨gb218, 0, none⟩) (Kd.V_mono HO215.out (fun k_ hk => (⟨hk, hk.2⟩ : _ ∧ k_ ≠ gb218))) (fun _ hk => hk.2) (.bool t212)) (fun _ hk => hk.2) (.slice Ao93 t213.length co93)) (fun _ hk => hk.2) (.int .i64 t216)) (fun _ h_ => h_.1))) hb); have n2_ := Aside0.mk (Kd.V_lower (Kd.V_mono (ok' := fun k_ => k_ ≠ gb211 ∧ k_ ≠ gb218) ho0 (fun k_ hk_ => ⟨(Kd.freshB (g := gb211) (o := .cells #[.bool t205, .slice Ao88 t206.length co88, .int .i64 t209] 25 (0, 0)) (by (with_reducible repeat (first | refine blk_drewN ?_ _ | refine blk_drew ?_ | refine blk_alloc ?_ _)); refine blk_far ?_ NB211_218.out _; (with_reducible repeat (first | refine blk_drewN ?_ _ | refine blk_drew ?_ | refine blk_alloc ?_ _)); refine blk_far ?_ NB211_218.out _; (with_reducible repeat (first | refine blk_drewN ?_ _ | refine blk_drew ?_ | refine blk_alloc ?_ _)); refine blk_far ?_ NB211_218.out _; (with_reducible repeat (first | refine blk_drewN ?_ _ | refine blk_drew ?_ | refine blk_alloc ?_ _)); exact BK211.out) k_ hk_), (Kd.freshB (g := gb218) (o := .cells #[.bool t212, .slice Ao93 t213.length co93, .int .i64 t216] 25 (0, 0)) (by (with_reducible repeat (first | refine blk_drewN ?_ _ | refine blk_drew ?_ | refine blk_alloc ?_ _)); refine blk_put (cs := #[.bool t212, .slice Ao93 t213.length co93, .int .i64 0]) ?_ 2 _ rfl; (with_reducible repeat (first | refine blk_drewN ?_ _ | refine blk_drew ?_ | refine blk_alloc ?_ _)); refine blk_put (cs := #[.bool t212, .slice none 0 0, .int .i64 0]) ?_ 1 _ rfl; (with_reducible repeat (first | refine blk_drewN ?_ _ | refine blk_drew ?_ | refine blk_alloc ?_ _)); refine blk_put (cs := #[.bool false, .slice none 0 0, .int .i64 0]) ?_ 0 _ rfl; (with_reducible repeat (first | refine blk_drewN ?_ _ | refine blk_drew ?_ | refine blk_alloc ?_ _)); exact BK218.out) k_ hk_)⟩)) (below_size (by repeat (first | (with_reducible first | exact HB.out | apply below_alloc | apply pw_below_drewN | apply below_drew1 | refine below_set ?_ GE211.out | refine below_set ?_ GE218.out) | exact HB.out)))); have n3_ := Aside0.mk (blk_below (g := gb211) (o := .cells #[.bool t205, .slice Ao88 t206.length co88, .int .i64 t209] 25 (0, 0)) (by (with_reducible repeat (first | refine blk_drewN ?_ _ | refine blk_drew ?_ | refine blk_alloc ?_ _)); refine blk_far ?_ NB211_218.out _; (with_reducible repeat (first | refine blk_drewN ?_ _ | refine blk_drew ?_ | refine blk_alloc ?_ _)); refine blk_far ?_ NB211_218.out _; (with_reducible repeat (first | refine blk_drewN ?_ _ | refine blk_drew ?_ | refine blk_alloc ?_ _)); refine blk_far ?_ NB211_218.out _; (with_reducible repeat (first | refine blk_drewN ?_ _ | refine blk_drew ?_ | refine blk_alloc ?_ _)); exact BK211.out) hb); have n4_ := Aside0.mk (blk_below (g := gb218) (o := .cells #[.bool t212, .slice Ao93 t213.length co93, .int .i64 t216] 25 (0, 0)) (by (with_reducible repeat (first | refine blk_drewN ?_ _ | refine blk_drew ?_ | refine blk_alloc ?_ _)); refine blk_put (cs := #[.bool t212, .slice Ao93 t213.length co93, .int .i64 0]) ?_ 2 _ rfl; (with_reducible repeat (first | refine blk_drewN ?_ _ | refine blk_drew ?_ | refine blk_alloc ?_ _)); refine blk_put (cs := #[.bool t212, .slice none 0 0, .int .i64 0]) ?_ 1 _ rfl; (with_reducible repeat (first | refine blk_drewN ?_ _ | refine blk_drew ?_ | refine blk_alloc ?_ _)); refine blk_put (cs := #[.bool false, .slice none 0 0, .int .i64 0]) ?_ 0 _ rfl; (with_reducible repeat (first | refine blk_drewN ?_ _ | refine blk_drew ?_ | refine blk_alloc ?_ _)); exact BK218.out) hb); have n5_ := Aside0.mk (below_step (by repeat (first | (with_reducible first | exact HB.out | apply below_alloc | apply pw_below_drewN | apply below_drew1 | refine below_set ?_ GE211.out | refine below_set ?_ GE218.out) | exact HB.out)) hb); clear HO208; clear HO215; clear BK211; clear BK218; clear HB; have HO208 := n0_; have HO215 := n1_; have HO222 := n2_; have BK211 := n3_; have BK218 := n4_; have HB := n5_; clear n0_ n1_ n2_ n3_ n4_ n5_; (try clear hb); (try clear hb2); (try clear hk); (try clear hi); (try clear ho0)) | ((with_reducible refine gate_dst (N := 20) rfl ?_); (try (refine gate_guard (by rfl) ?_; dsimp only)); refine box_event ?hg (N := 20) ?hd (cs := #[.bool false, .slice none 0 0, .int .i64 0]) (t := 25) ?hr ?_; (case hd => rfl); (case hg => rfl); (case hr => first | (go_simp; done) | (go_simp; rfl)); intro gb225 hg w95 hbox hb; have n0_ := Aside0.mk (Kd.V_below (Kd.V_elderB (S.v HO208.out) gb225 (Nat.le_of_eq hg.symm)) hb); have n1_ := Aside0.mk (Kd.V_below (Kd.V_elderB (S.v HO215.out) gb225 (Nat.le_of_eq hg.symm)) hb); have n2_ := Aside0.mk (Kd.V_below (Kd.V_elderB (S.v HO222.out) gb225 (Nat.le_of_eq hg.symm)) hb); have n3_ := Aside0.mk (blk_below (g := gb211) (o := .cells #[.bool t205, .slice Ao88 t206.length co88, .int .i64 t209] 25 (0, 0)) (S.b BK211.out) hb); have n4_ := Aside0.mk (blk_below (g := gb218) (o := .cells #[.bool t212, .slice Ao93 t213.length co93, .int .i64 t216] 25 (0, 0)) (S.b BK218.out) hb); have n5_ := Aside0.mk (below_step (by repeat (first | (with_reducible first | exact HB.out | apply below_alloc | apply pw_below_drewN | apply below_drew1 | refine below_set ?_ GE211.out | refine below_set ?_ GE218.out) | exact HB.out)) hb); have n6_ := Aside0.mk (hbox); have n7_ := Aside0.mk ((by rw [hg]; exact (below_size (by repeat (first | (with_reducible first | exact HB.out | apply below_alloc | apply pw_below_drewN | apply below_drew1 | refine below_set ?_ GE211.out | refine below_set ?_ GE218.out) | exact HB.out))) : w.heap.size ≤ gb225)); have n8_ := Aside0.mk ((by rw [hg]; exact (below_size (by repeat (first | (with_reducible first | exact HB.out | apply below_alloc | apply pw_below_drewN | apply below_drew1 | refine below_set ?_ GE211.out | refine below_set ?_ GE218.out) | exact HB.out))) : w.heap.size ≤ gb225)); have n9_ := Aside0.mk ((by rw [hg]; exact Nat.ne_of_lt (blk_lt (g := gb211) (o := .cells #[.bool t205, .slice Ao88 t206.length co88, .int .i64 t209] 25 (0, 0)) (S.b BK211.out)) : gb211 ≠ gb225)); have n10_ := Aside0.mk ((by rw [hg]; exact Nat.ne_of_gt (blk_lt (g := gb211) (o := .cells #[.bool t205, .slice Ao88 t206.length co88, .int .i64 t209] 25 (0, 0)) (S.b BK211.out)) : gb225 ≠ gb211)); have n11_ := Aside0.mk ((by rw [hg]; exact Nat.ne_of_lt (blk_lt (g := gb218) (o := .cells #[.bool t212, .slice Ao93 t213.length co93, .int .i64 t216] 25 (0, 0)) (S.b BK218.out)) : gb218 ≠ gb225)); have n12_ := Aside0.mk ((by rw [hg]; exact Nat.ne_of_gt (blk_lt (g := gb218) (o := .cells #[.bool t212, .slice Ao93 t213.length co93, .int .i64 t216] 25 (0, 0)) (S.b BK218.out)) : gb225 ≠ gb218)); clear HO208; clear HO215; clear HO222; clear BK211; clear BK218; clear HB; have HO208 := n0_; have HO215 := n1_; have HO222 := n2_; have BK211 := n3_; have BK218 := n4_; have HB := n5_; have BK225 := n6_; have GW225 := n7_; have GE225 := n8_; have NB211_225 := n9_; have NB225_211 := n10_; have NB218_225 := n11_; have NB225_218 := n12_; clear n0_ n1_ n2_ n3_ n4_ n5_ n6_ n7_ n8_ n9_ n10_ n11_ n12_; clear hb hbox hg; have hnb96 := NB225_211.out; have hnc96 := NB211_225.out; have hnb97 := NB225_218.out; have hnc97 := NB218_225.out; have hcz98_0 : w95.cell? ⟨gb225, 0, none⟩ = some (.bool false) := (blk_cell BK225.out 0).trans rfl; have hcz98_1 : w95.cell? ⟨gb225, 1, none⟩ = some (.slice none 0 0) := (blk_cell BK225.out 1).trans rfl; have hcz98_2 : w95.cell? ⟨gb225, 2, none⟩ = some (.int .i64 0) := (blk_cell BK225.out 2).trans rfl; have hfz98_0 := blk_frozen BK225.out 0; have hfz98_1 := blk_frozen BK225.out 1; have hfz98_2 := blk_frozen BK225.out 2; obtain ⟨Ao99, co99, eo99⟩ := Kd.V_slice HO222.out; subst eo99))
                                  any_goals (first | (exfalso; rename_i hx_; have e1_ : (⟨#[48]⟩ : ByteArray).size = 1 := rfl; have e2_ : (⟨#[46]⟩ : ByteArray).size = 1 := rfl; simp only [ByteArray.size_append, e1_, e2_] at c29 c30 c31 c32 c34 c35 c36 c37 c38 c39 c41 hx_; omega) | skip)
                                  have n0_ : Aside0 (Kd.V (Kd.int .u8) 5 (((w95.setCell ⟨gb225, 0, none⟩ (.bool t219)).setCell ⟨gb225, 1, none⟩ (.slice Ao99 t220.length co99)).setCell ⟨gb225, 2, none⟩ (.int .i64 t223)) w.heap.size (fun k_ => k_ ≠ gb211 ∧ k_ ≠ gb218 ∧ k_ ≠ gb225) (.slice Ao88 t206.length co88) t206) := ⟨by (with_reducible repeat (first | apply Kd.V_alloc | apply Kd.V_drewN | apply Kd.V_drew)); exact Kd.V_mono (Kd.V_far (p := ⟨gb225, 2, none⟩) (Kd.V_far (p := ⟨gb225, 1, none⟩) (Kd.V_far (p := ⟨gb225, 0, none⟩) (Kd.V_mono HO208.out (fun k_ hk => (⟨hk, hk.2⟩ : _ ∧ k_ ≠ gb225))) (fun _ hk => hk.2) (.bool t219)) (fun _ hk => hk.2) (.slice Ao99 t220.length co99)) (fun _ hk => hk.2) (.int .i64 t223)) (fun _ hk => ⟨hk.1.1.1.2, ⟨hk.1.1.2, hk.1.2⟩⟩)⟩
                                  have n1_ : Aside0 (Kd.V (Kd.int .u8) 5 (((w95.setCell ⟨gb225, 0, none⟩ (.bool t219)).setCell ⟨gb225, 1, none⟩ (.slice Ao99 t220.length co99)).setCell ⟨gb225, 2, none⟩ (.int .i64 t223)) w.heap.size (fun k_ => k_ ≠ gb211 ∧ k_ ≠ gb218 ∧ k_ ≠ gb225) (.slice Ao93 t213.length co93) t213) := ⟨by (with_reducible repeat (first | apply Kd.V_alloc | apply Kd.V_drewN | apply Kd.V_drew)); exact Kd.V_mono (Kd.V_far (p := ⟨gb225, 2, none⟩) (Kd.V_far (p := ⟨gb225, 1, none⟩) (Kd.V_far (p := ⟨gb225, 0, none⟩) (Kd.V_mono HO215.out (fun k_ hk => (⟨hk, hk.2⟩ : _ ∧ k_ ≠ gb225))) (fun _ hk => hk.2) (.bool t219)) (fun _ hk => hk.2) (.slice Ao99 t220.length co99)) (fun _ hk => hk.2) (.int .i64 t223)) (fun _ hk => ⟨hk.1.1.1, ⟨hk.1.1.2, hk.1.2⟩⟩)⟩
                                  have n2_ : Aside0 (Kd.V (Kd.int .u8) 5 (((w95.setCell ⟨gb225, 0, none⟩ (.bool t219)).setCell ⟨gb225, 1, none⟩ (.slice Ao99 t220.length co99)).setCell ⟨gb225, 2, none⟩ (.int .i64 t223)) w.heap.size (fun k_ => k_ ≠ gb211 ∧ k_ ≠ gb218 ∧ k_ ≠ gb225) (.slice Ao99 t220.length co99) t220) := ⟨by (with_reducible repeat (first | apply Kd.V_alloc | apply Kd.V_drewN | apply Kd.V_drew)); exact Kd.V_mono (Kd.V_far (p := ⟨gb225, 2, none⟩) (Kd.V_far (p := ⟨gb225, 1, none⟩) (Kd.V_far (p := ⟨gb225, 0, none⟩) (Kd.V_mono HO222.out (fun k_ hk => (⟨hk, hk.2⟩ : _ ∧ k_ ≠ gb225))) (fun _ hk => hk.2) (.bool t219)) (fun _ hk => hk.2) (.slice Ao99 t220.length co99)) (fun _ hk => hk.2) (.int .i64 t223)) (fun _ hk => ⟨hk.1.1.1, ⟨hk.1.1.2, hk.1.2⟩⟩)⟩
                                  have n3_ : Aside0 ((((w95.setCell ⟨gb225, 0, none⟩ (.bool t219)).setCell ⟨gb225, 1, none⟩ (.slice Ao99 t220.length co99)).setCell ⟨gb225, 2, none⟩ (.int .i64 t223)).heap[gb211]? = some (.cells #[.bool t205, .slice Ao88 t206.length co88, .int .i64 t209] 25 (0, 0))) := ⟨by (with_reducible repeat (first | refine blk_drewN ?_ _ | refine blk_drew ?_ | refine blk_alloc ?_ _)); refine blk_far ?_ NB211_225.out _; (with_reducible repeat (first | refine blk_drewN ?_ _ | refine blk_drew ?_ | refine blk_alloc ?_ _)); refine blk_far ?_ NB211_225.out _; (with_reducible repeat (first | refine blk_drewN ?_ _ | refine blk_drew ?_ | refine blk_alloc ?_ _)); refine blk_far ?_ NB211_225.out _; (with_reducible repeat (first | refine blk_drewN ?_ _ | refine blk_drew ?_ | refine blk_alloc ?_ _)); exact BK211.out⟩
                                  have n4_ : Aside0 ((((w95.setCell ⟨gb225, 0, none⟩ (.bool t219)).setCell ⟨gb225, 1, none⟩ (.slice Ao99 t220.length co99)).setCell ⟨gb225, 2, none⟩ (.int .i64 t223)).heap[gb218]? = some (.cells #[.bool t212, .slice Ao93 t213.length co93, .int .i64 t216] 25 (0, 0))) := ⟨by (with_reducible repeat (first | refine blk_drewN ?_ _ | refine blk_drew ?_ | refine blk_alloc ?_ _)); refine blk_far ?_ NB218_225.out _; (with_reducible repeat (first | refine blk_drewN ?_ _ | refine blk_drew ?_ | refine blk_alloc ?_ _)); refine blk_far ?_ NB218_225.out _; (with_reducible repeat (first | refine blk_drewN ?_ _ | refine blk_drew ?_ | refine blk_alloc ?_ _)); refine blk_far ?_ NB218_225.out _; (with_reducible repeat (first | refine blk_drewN ?_ _ | refine blk_drew ?_ | refine blk_alloc ?_ _)); exact BK218.out⟩
                                  have n5_ : Aside0 ((((w95.setCell ⟨gb225, 0, none⟩ (.bool t219)).setCell ⟨gb225, 1, none⟩ (.slice Ao99 t220.length co99)).setCell ⟨gb225, 2, none⟩ (.int .i64 t223)).heap[gb225]? = some (.cells #[.bool t219, .slice Ao99 t220.length co99, .int .i64 t223] 25 (0, 0))) := ⟨by (with_reducible repeat (first | refine blk_drewN ?_ _ | refine blk_drew ?_ | refine blk_alloc ?_ _)); refine blk_put (cs := #[.bool t219, .slice Ao99 t220.length co99, .int .i64 0]) ?_ 2 _ rfl; (with_reducible repeat (first | refine blk_drewN ?_ _ | refine blk_drew ?_ | refine blk_alloc ?_ _)); refine blk_put (cs := #[.bool t219, .slice none 0 0, .int .i64 0]) ?_ 1 _ rfl; (with_reducible repeat (first | refine blk_drewN ?_ _ | refine blk_drew ?_ | refine blk_alloc ?_ _)); refine blk_put (cs := #[.bool false, .slice none 0 0, .int .i64 0]) ?_ 0 _ rfl; (with_reducible repeat (first | refine blk_drewN ?_ _ | refine blk_drew ?_ | refine blk_alloc ?_ _)); exact BK225.out⟩
                                  have n6_ : Aside0 (Below w.heap.size w (((w95.setCell ⟨gb225, 0, none⟩ (.bool t219)).setCell ⟨gb225, 1, none⟩ (.slice Ao99 t220.length co99)).setCell ⟨gb225, 2, none⟩ (.int .i64 t223))) := ⟨by repeat (first | (with_reducible first | exact HB.out | apply below_alloc | apply pw_below_drewN | apply below_drew1 | refine below_set ?_ GE211.out | refine below_set ?_ GE218.out | refine below_set ?_ GE225.out) | exact HB.out)⟩
                                  (try clear HO208)
                                  (try clear HO215)
                                  (try clear HO222)
                                  (try clear BK211)
                                  (try clear BK218)
                                  (try clear BK225)
                                  (try clear HB)
                                  generalize (((w95.setCell ⟨gb225, 0, none⟩ (.bool t219)).setCell ⟨gb225, 1, none⟩ (.slice Ao99 t220.length co99)).setCell ⟨gb225, 2, none⟩ (.int .i64 t223)) = w100 at n0_ n1_ n2_ n3_ n4_ n5_ n6_ ⊢
                                  have HO208 := n0_
                                  have HO215 := n1_
                                  have HO222 := n2_
                                  have BK211 := n3_
                                  have BK218 := n4_
                                  have BK225 := n5_
                                  have HB := n6_
                                  clear n0_ n1_ n2_ n3_ n4_ n5_ n6_
                                  have n0_ := Aside0.mk (Kd.V_drew HO208.out)
                                  have n1_ := Aside0.mk (Kd.V_drew HO215.out)
                                  have n2_ := Aside0.mk (Kd.V_drew HO222.out)
                                  have n3_ := Aside0.mk (blk_drew BK211.out)
                                  have n4_ := Aside0.mk (blk_drew BK218.out)
                                  have n5_ := Aside0.mk (blk_drew BK225.out)
                                  have n6_ := Aside0.mk (below_drew1 HB.out)
                                  clear HO208
                                  clear HO215
                                  clear HO222
                                  clear BK211
                                  clear BK218
                                  clear BK225
                                  clear HB
                                  have HO208 := n0_
                                  have HO215 := n1_
                                  have HO222 := n2_
                                  have BK211 := n3_
                                  have BK218 := n4_
                                  have BK225 := n5_
                                  have HB := n6_
                                  clear n0_ n1_ n2_ n3_ n4_ n5_ n6_
                                  refine start_ (n := 52) (S := fun w' => w'.cell? ⟨gb211, 0, none⟩ = some (.bool t205) ∧ w'.cell? ⟨gb211, 1, none⟩ = some (.slice Ao88 t206.length co88) ∧ w'.cell? ⟨gb211, 2, none⟩ = some (.int .i64 t209) ∧ w'.cell? ⟨gb218, 0, none⟩ = some (.bool t212) ∧ w'.cell? ⟨gb218, 1, none⟩ = some (.slice Ao93 t213.length co93) ∧ w'.cell? ⟨gb218, 2, none⟩ = some (.int .i64 t216) ∧ w'.cell? ⟨gb225, 0, none⟩ = some (.bool t219) ∧ w'.cell? ⟨gb225, 1, none⟩ = some (.slice Ao99 t220.length co99) ∧ w'.cell? ⟨gb225, 2, none⟩ = some (.int .i64 t223)) (ds := []) #[false, false, false, false, false, false, false, false, false, false, false, false, false, false, false, false, false, false, false, false, false, false, false, false, false, false, false, false, false, false, false, false, false, false, false, false, false, false, false, false, false, false, false, false, false, false, false, false, false, false, false, false] (by kernel_rfl) rfl rfl ⟨(blk_cell BK211.out 0).trans rfl, (blk_cell BK211.out 1).trans rfl, (blk_cell BK211.out 2).trans rfl, (blk_cell BK218.out 0).trans rfl, (blk_cell BK218.out 1).trans rfl, (blk_cell BK218.out 2).trans rfl, (blk_cell BK225.out 0).trans rfl, (blk_cell BK225.out 1).trans rfl, (blk_cell BK225.out 2).trans rfl⟩ (fun hHeld => ?_); refine with_tabW rubriclaw5_DecForms.tab26 rubriclaw5_DecForms.bits26 (fun HT_ HW_ => ?_)
                                  generalize w100.drew = w101 at HO208 HO215 HO222 BK211 BK218 BK225 HB hHeld ⊢
                                  refine pure_ (i := 0) (N := some 116) (v := ?_) (a' := ?_) #[true, false, false, false, false, false, false, false, false, false, false, false, false, false, false, false, false, false, false, false, false, false, false, false, false, false, false, false, false, false, false, false, false, false, false, false, false, false, false, false, false, false, false, false, false, false, false, false, false, false, false, false] rfl rfl (any_of HT_.out (by kernel_rfl)) (fun _ _ _ h => h) (Or.inl ⟨by rfl, ?_⟩) ?_ ?_
                                  rotate_left
                                  ·intro w'
                                   go_simp
                                   with_reducible rfl
                                  rotate_left
                                  ·simp only [Act.put, List.setIfInBounds_toArray, List.set_cons_zero, List.set_cons_succ, i64_w, i32_w]
                                   rfl
                                  refine pure_ (i := 1) (N := some 117) (v := ?_) (a' := ?_) #[true, true, false, false, false, false, false, false, false, false, false, false, false, false, false, false, false, false, false, false, false, false, false, false, false, false, false, false, false, false, false, false, false, false, false, false, false, false, false, false, false, false, false, false, false, false, false, false, false, false, false, false] rfl rfl (any_of HT_.out (by kernel_rfl)) (fun _ _ _ h => h) (Or.inl ⟨by rfl, ?_⟩) ?_ ?_
                                  rotate_left
                                  ·intro w'
                                   go_simp
                                   with_reducible rfl
                                  rotate_left
                                  ·simp only [Act.put, List.setIfInBounds_toArray, List.set_cons_zero, List.set_cons_succ, i64_w, i32_w]
                                   rfl
                                  refine pure_ (i := 2) (N := some 118) (v := ?_) (a' := ?_) #[true, true, true, false, false, false, false, false, false, false, false, false, false, false, false, false, false, false, false, false, false, false, false, false, false, false, false, false, false, false, false, false, false, false, false, false, false, false, false, false, false, false, false, false, false, false, false, false, false, false, false, false] rfl rfl (any_of HT_.out (by kernel_rfl)) (fun _ _ _ h => h) (Or.inl ⟨by rfl, ?_⟩) ?_ ?_
                                  rotate_left
                                  ·intro w'
                                   go_simp
                                   with_reducible rfl
                                  rotate_left
                                  ·simp only [Act.put, List.setIfInBounds_toArray, List.set_cons_zero, List.set_cons_succ, i64_w, i32_w]
                                   rfl
                                  refine pure_ (i := 3) (N := some 119) (v := ?_) (a' := ?_) #[true, true, true, true, false, false, false, false, false, false, false, false, false, false, false, false, false, false, false, false, false, false, false, false, false, false, false, false, false, false, false, false, false, false, false, false, false, false, false, false, false, false, false, false, false, false, false, false, false, false, false, false] rfl rfl (any_of HT_.out (by kernel_rfl)) (fun _ _ _ h => h) (Or.inl ⟨by rfl, ?_⟩) ?_ ?_
                                  rotate_left
                                  ·intro w'
                                   go_simp
                                   with_reducible rfl
                                  rotate_left
                                  ·simp only [Act.put, List.setIfInBounds_toArray, List.set_cons_zero, List.set_cons_succ, i64_w, i32_w]
                                   rfl
                                  refine pure_ (i := 4) (N := some 120) (v := ?_) (a' := ?_) #[true, true, true, true, true, false, false, false, false, false, false, false, false, false, false, false, false, false, false, false, false, false, false, false, false, false, false, false, false, false, false, false, false, false, false, false, false, false, false, false, false, false, false, false, false, false, false, false, false, false, false, false] rfl rfl (any_of HT_.out (by kernel_rfl)) (fun _ _ _ h => h) (Or.inl ⟨by rfl, ?_⟩) ?_ ?_
                                  rotate_left
                                  ·intro w'
                                   go_simp
                                   with_reducible rfl
                                  rotate_left
                                  ·simp only [Act.put, List.setIfInBounds_toArray, List.set_cons_zero, List.set_cons_succ, i64_w, i32_w]
                                   rfl
                                  refine pure_ (i := 5) (N := some 121) (v := ?_) (a' := ?_) #[true, true, true, true, true, true, false, false, false, false, false, false, false, false, false, false, false, false, false, false, false, false, false, false, false, false, false, false, false, false, false, false, false, false, false, false, false, false, false, false, false, false, false, false, false, false, false, false, false, false, false, false] rfl rfl (any_of HT_.out (by kernel_rfl)) (fun _ _ _ h => h) (Or.inl ⟨by rfl, ?_⟩) ?_ ?_
                                  rotate_left
                                  ·intro w'
                                   go_simp
                                   with_reducible rfl
                                  rotate_left
                                  ·simp only [Act.put, List.setIfInBounds_toArray, List.set_cons_zero, List.set_cons_succ, i64_w, i32_w]
                                   rfl
                                  refine pure_ (i := 6) (N := some 122) (v := ?_) (a' := ?_) #[true, true, true, true, true, true, true, false, false, false, false, false, false, false, false, false, false, false, false, false, false, false, false, false, false, false, false, false, false, false, false, false, false, false, false, false, false, false, false, false, false, false, false, false, false, false, false, false, false, false, false, false] rfl rfl (any_of HT_.out (by kernel_rfl)) (fun _ _ _ h => h) (Or.inl ⟨by rfl, ?_⟩) ?_ ?_
                                  rotate_left
                                  ·intro w'
                                   go_simp
                                   with_reducible rfl
                                  rotate_left
                                  ·simp only [Act.put, List.setIfInBounds_toArray, List.set_cons_zero, List.set_cons_succ, i64_w, i32_w]
                                   rfl
                                  refine take_ (i := 7) (N := some 123) (v := ?_) (a' := ?_) #[true, true, true, true, true, true, true, true, false, false, false, false, false, false, false, false, false, false, false, false, false, false, false, false, false, false, false, false, false, false, false, false, false, false, false, false, false, false, false, false, false, false, false, false, false, false, false, false, false, false, false, false] rfl rfl (take_ofW HT_.out HW_.out (by kernel_rfl)) (fun _ _ _ h => h) (Or.inl ⟨by rfl, ?_⟩) hHeld ?_ ?_
                                  rotate_left
                                  ·rintro w' ⟨s0, s1, s2, s3, s4, s5, s6, s7, s8⟩
                                   go_simp
                                   with_reducible rfl
                                  rotate_left
                                  ·simp only [Act.put, List.setIfInBounds_toArray, List.set_cons_zero, List.set_cons_succ, i64_w, i32_w]
                                   rfl
                                  refine take_ (i := 8) (N := some 124) (v := ?_) (a' := ?_) #[true, true, true, true, true, true, true, true, true, false, false, false, false, false, false, false, false, false, false, false, false, false, false, false, false, false, false, false, false, false, false, false, false, false, false, false, false, false, false, false, false, false, false, false, false, false, false, false, false, false, false, false] rfl rfl (take_ofW HT_.out HW_.out (by kernel_rfl)) (fun _ _ _ h => h) (Or.inl ⟨by rfl, ?_⟩) hHeld ?_ ?_
                                  rotate_left
                                  ·rintro w' ⟨s0, s1, s2, s3, s4, s5, s6, s7, s8⟩
                                   go_simp
                                   with_reducible rfl
                                  rotate_left
                                  ·simp only [Act.put, List.setIfInBounds_toArray, List.set_cons_zero, List.set_cons_succ, i64_w, i32_w]
                                   rfl
                                  refine one_ (i := 9) (N := some 125) #[true, true, true, true, true, true, true, true, true, true, false, false, false, false, false, false, false, false, false, false, false, false, false, false, false, false, false, false, false, false, false, false, false, false, false, false, false, false, false, false, false, false, false, false, false, false, false, false, false, false, false, false] rfl rfl (one_of HT_.out (by kernel_rfl)) (by decide) (fun K hK => ?_)
                                  refine goes_ Try.func8 (by kernel_rfl) rfl #[.agg #[.bool t205, .slice Ao88 t206.length co88, .int .i64 t209], .agg #[.bool t212, .slice Ao93 t213.length co93, .int .i64 t216]] (by rfl) rfl rfl (by (try simp only [List.map_toArray, List.map_cons, List.map_nil]); first | done | rfl | (simp only [List.length_drop, List.length_take]; rfl)) ?_
                                  with_reducible refine (dec_Cmp.calls kj26 t205 _ _ t206 t209 t212 _ _ t213 t216 t226 _ ?side1 ?side2 ?side3 ?side4 A44.out).mono ?_
                                  (case side1 => repeat (first | exact (Kd.V_reads' HO208.out).2.2 | (with_reducible refine Kd.C_alloc ?_ _) | (with_reducible refine Kd.C_drewN ?_ _) | (with_reducible refine Kd.C_drew ?_)))
                                  (case side2 => exact (Kd.V_reads' HO208.out).2.1)
                                  (case side3 => repeat (first | exact (Kd.V_reads' HO215.out).2.2 | (with_reducible refine Kd.C_alloc ?_ _) | (with_reducible refine Kd.C_drewN ?_ _) | (with_reducible refine Kd.C_drew ?_)))
                                  (case side4 => exact (Kd.V_reads' HO215.out).2.1)
                                  rintro e w102 ⟨rfl, hb⟩
                                  refine ⟨_, rfl, ?_⟩
                                  have n0_ := Aside0.mk (Kd.V_below (S.v HO208.out) hb)
                                  have n1_ := Aside0.mk (Kd.V_below (S.v HO215.out) hb)
                                  have n2_ := Aside0.mk (Kd.V_below (S.v HO222.out) hb)
                                  have n3_ := Aside0.mk (blk_below (g := gb211) (o := .cells #[.bool t205, .slice Ao88 t206.length co88, .int .i64 t209] 25 (0, 0)) (S.b BK211.out) hb)
                                  have n4_ := Aside0.mk (blk_below (g := gb218) (o := .cells #[.bool t212, .slice Ao93 t213.length co93, .int .i64 t216] 25 (0, 0)) (S.b BK218.out) hb)
                                  have n5_ := Aside0.mk (blk_below (g := gb225) (o := .cells #[.bool t219, .slice Ao99 t220.length co99, .int .i64 t223] 25 (0, 0)) (S.b BK225.out) hb)
                                  have n6_ := Aside0.mk (below_step (by repeat (first | (with_reducible first | exact HB.out | apply below_alloc | apply pw_below_drewN | apply below_drew1 | refine below_set ?_ GE211.out | refine below_set ?_ GE218.out | refine below_set ?_ GE225.out) | exact HB.out)) hb)
                                  clear HO208
                                  clear HO215
                                  clear HO222
                                  clear BK211
                                  clear BK218
                                  clear BK225
                                  clear HB
                                  have HO208 := n0_
                                  have HO215 := n1_
                                  have HO222 := n2_
                                  have BK211 := n3_
                                  have BK218 := n4_
                                  have BK225 := n5_
                                  have HB := n6_
                                  clear n0_ n1_ n2_ n3_ n4_ n5_ n6_
                                  (try clear hb)
                                  (try clear hb2)
                                  (try clear hk)
                                  (try clear hi)
                                  refine hK.out _ _ ⟨(blk_cell BK211.out 0).trans rfl, (blk_cell BK211.out 1).trans rfl, (blk_cell BK211.out 2).trans rfl, (blk_cell BK218.out 0).trans rfl, (blk_cell BK218.out 1).trans rfl, (blk_cell BK218.out 2).trans rfl, (blk_cell BK225.out 0).trans rfl, (blk_cell BK225.out 1).trans rfl, (blk_cell BK225.out 2).trans rfl⟩ (fun hHeld => ?_)
                                  clear hK K
                                  refine norm_ (a' := ?_) ?_ ?_
                                  rotate_left
                                  ·show Act.put _ (some 125) _ = _
                                   simp only [Act.put, List.setIfInBounds_toArray, List.set_cons_zero, List.set_cons_succ, i64_w, i32_w]
                                   rfl
                                  refine pure_ (i := 10) (N := some 126) (v := ?_) (a' := ?_) #[true, true, true, true, true, true, true, true, true, true, true, false, false, false, false, false, false, false, false, false, false, false, false, false, false, false, false, false, false, false, false, false, false, false, false, false, false, false, false, false, false, false, false, false, false, false, false, false, false, false, false, false] rfl rfl (any_of HT_.out (by kernel_rfl)) (fun _ _ _ h => h) (Or.inl ⟨by rfl, ?_⟩) ?_ ?_
                                  rotate_left
                                  ·intro w'
                                   go_simp
                                   with_reducible rfl
                                  rotate_left
                                  ·simp only [Act.put, List.setIfInBounds_toArray, List.set_cons_zero, List.set_cons_succ, i64_w, i32_w]
                                   rfl
                                  refine pure_ (i := 11) (N := some 127) (v := ?_) (a' := ?_) #[true, true, true, true, true, true, true, true, true, true, true, true, false, false, false, false, false, false, false, false, false, false, false, false, false, false, false, false, false, false, false, false, false, false, false, false, false, false, false, false, false, false, false, false, false, false, false, false, false, false, false, false] rfl rfl (any_of HT_.out (by kernel_rfl)) (fun _ _ _ h => h) (Or.inl ⟨by rfl, ?_⟩) ?_ ?_
                                  rotate_left
                                  ·intro w'
                                   go_simp
                                   with_reducible rfl
                                  rotate_left
                                  ·simp only [Act.put, List.setIfInBounds_toArray, List.set_cons_zero, List.set_cons_succ, i64_w, i32_w]
                                   rfl
                                  refine pure_ (i := 12) (N := some 128) (v := ?_) (a' := ?_) #[true, true, true, true, true, true, true, true, true, true, true, true, true, false, false, false, false, false, false, false, false, false, false, false, false, false, false, false, false, false, false, false, false, false, false, false, false, false, false, false, false, false, false, false, false, false, false, false, false, false, false, false] rfl rfl (any_of HT_.out (by kernel_rfl)) (fun _ _ _ h => h) (Or.inl ⟨by rfl, ?_⟩) ?_ ?_
                                  rotate_left
                                  ·intro w'
                                   go_simp
                                   with_reducible rfl
                                  rotate_left
                                  ·simp only [Act.put, List.setIfInBounds_toArray, List.set_cons_zero, List.set_cons_succ, i64_w, i32_w]
                                   rfl
                                  refine take_ (i := 13) (N := some 129) (v := ?_) (a' := ?_) #[true, true, true, true, true, true, true, true, true, true, true, true, true, true, false, false, false, false, false, false, false, false, false, false, false, false, false, false, false, false, false, false, false, false, false, false, false, false, false, false, false, false, false, false, false, false, false, false, false, false, false, false] rfl rfl (take_ofW HT_.out HW_.out (by kernel_rfl)) (fun _ _ _ h => h) (Or.inl ⟨by rfl, ?_⟩) hHeld ?_ ?_
                                  rotate_left
                                  ·rintro w' ⟨s0, s1, s2, s3, s4, s5, s6, s7, s8⟩
                                   go_simp
                                   with_reducible rfl
                                  rotate_left
                                  ·simp only [Act.put, List.setIfInBounds_toArray, List.set_cons_zero, List.set_cons_succ, i64_w, i32_w]
                                   rfl
                                  refine take_ (i := 15) (N := some 131) (v := ?_) (a' := ?_) #[true, true, true, true, true, true, true, true, true, true, true, true, true, true, false, true, false, false, false, false, false, false, false, false, false, false, false, false, false, false, false, false, false, false, false, false, false, false, false, false, false, false, false, false, false, false, false, false, false, false, false, false] rfl rfl (take_ofW HT_.out HW_.out (by kernel_rfl)) (fun _ _ _ h => h) (Or.inl ⟨by rfl, ?_⟩) hHeld ?_ ?_
                                  rotate_left
                                  ·rintro w' ⟨s0, s1, s2, s3, s4, s5, s6, s7, s8⟩
                                   go_simp
                                   with_reducible rfl
                                  rotate_left
                                  ·simp only [Act.put, List.setIfInBounds_toArray, List.set_cons_zero, List.set_cons_succ, i64_w, i32_w]
                                   rfl
                                  refine one_ (i := 14) (N := some 130) #[true, true, true, true, true, true, true, true, true, true, true, true, true, true, true, true, false, false, false, false, false, false, false, false, false, false, false, false, false, false, false, false, false, false, false, false, false, false, false, false, false, false, false, false, false, false, false, false, false, false, false, false] rfl rfl (one_of HT_.out (by kernel_rfl)) (by decide) (fun K hK => ?_)
                                  refine goes_ Try.func9 (by kernel_rfl) rfl #[.agg #[.bool t205, .slice Ao88 t206.length co88, .int .i64 t209]] (by rfl) rfl rfl (by (try simp only [List.map_toArray, List.map_cons, List.map_nil]); first | done | rfl | (simp only [List.length_drop, List.length_take]; rfl)) ?_
                                  with_reducible refine (G.dec_Dec_Text.calls t205 _ _ t206 t209 t227 _ ?side1 ?side2 A46.out).mono ?_
                                  (case side1 => repeat (first | exact (Kd.V_reads' HO208.out).2.2 | (with_reducible refine Kd.C_alloc ?_ _) | (with_reducible refine Kd.C_drewN ?_ _) | (with_reducible refine Kd.C_drew ?_)))
                                  (case side2 => exact (Kd.V_reads' HO208.out).2.1)
                                  rintro e w103 ⟨rfl, hb⟩
                                  refine ⟨_, rfl, ?_⟩
                                  have n0_ := Aside0.mk (Kd.V_below (S.v HO208.out) hb)
                                  have n1_ := Aside0.mk (Kd.V_below (S.v HO215.out) hb)
                                  have n2_ := Aside0.mk (Kd.V_below (S.v HO222.out) hb)
                                  have n3_ := Aside0.mk (blk_below (g := gb211) (o := .cells #[.bool t205, .slice Ao88 t206.length co88, .int .i64 t209] 25 (0, 0)) (S.b BK211.out) hb)
                                  have n4_ := Aside0.mk (blk_below (g := gb218) (o := .cells #[.bool t212, .slice Ao93 t213.length co93, .int .i64 t216] 25 (0, 0)) (S.b BK218.out) hb)
                                  have n5_ := Aside0.mk (blk_below (g := gb225) (o := .cells #[.bool t219, .slice Ao99 t220.length co99, .int .i64 t223] 25 (0, 0)) (S.b BK225.out) hb)
                                  have n6_ := Aside0.mk (below_step (by repeat (first | (with_reducible first | exact HB.out | apply below_alloc | apply pw_below_drewN | apply below_drew1 | refine below_set ?_ GE211.out | refine below_set ?_ GE218.out | refine below_set ?_ GE225.out) | exact HB.out)) hb)
                                  clear HO208
                                  clear HO215
                                  clear HO222
                                  clear BK211
                                  clear BK218
                                  clear BK225
                                  clear HB
                                  have HO208 := n0_
                                  have HO215 := n1_
                                  have HO222 := n2_
                                  have BK211 := n3_
                                  have BK218 := n4_
                                  have BK225 := n5_
                                  have HB := n6_
                                  clear n0_ n1_ n2_ n3_ n4_ n5_ n6_
                                  (try clear hb)
                                  (try clear hb2)
                                  (try clear hk)
                                  (try clear hi)
                                  refine hK.out _ _ ⟨(blk_cell BK211.out 0).trans rfl, (blk_cell BK211.out 1).trans rfl, (blk_cell BK211.out 2).trans rfl, (blk_cell BK218.out 0).trans rfl, (blk_cell BK218.out 1).trans rfl, (blk_cell BK218.out 2).trans rfl, (blk_cell BK225.out 0).trans rfl, (blk_cell BK225.out 1).trans rfl, (blk_cell BK225.out 2).trans rfl⟩ (fun hHeld => ?_)
                                  clear hK K
                                  refine norm_ (a' := ?_) ?_ ?_
                                  rotate_left
                                  ·show Act.put _ (some 130) _ = _
                                   simp only [Act.put, List.setIfInBounds_toArray, List.set_cons_zero, List.set_cons_succ, i64_w, i32_w]
                                   rfl
                                  refine one_ (i := 16) (N := some 132) #[true, true, true, true, true, true, true, true, true, true, true, true, true, true, true, true, true, false, false, false, false, false, false, false, false, false, false, false, false, false, false, false, false, false, false, false, false, false, false, false, false, false, false, false, false, false, false, false, false, false, false, false] rfl rfl (one_of HT_.out (by kernel_rfl)) (by decide) (fun K hK => ?_)
                                  refine goes_ Try.func9 (by kernel_rfl) rfl #[.agg #[.bool t212, .slice Ao93 t213.length co93, .int .i64 t216]] (by rfl) rfl rfl (by (try simp only [List.map_toArray, List.map_cons, List.map_nil]); first | done | rfl | (simp only [List.length_drop, List.length_take]; rfl)) ?_
                                  with_reducible refine (G.dec_Dec_Text.calls t212 _ _ t213 t216 t228 _ ?side1 ?side2 A47.out).mono ?_
                                  (case side1 => repeat (first | exact (Kd.V_reads' HO215.out).2.2 | (with_reducible refine Kd.C_alloc ?_ _) | (with_reducible refine Kd.C_drewN ?_ _) | (with_reducible refine Kd.C_drew ?_)))
                                  (case side2 => exact (Kd.V_reads' HO215.out).2.1)
                                  rintro e w104 ⟨rfl, hb⟩
                                  refine ⟨_, rfl, ?_⟩
                                  have n0_ := Aside0.mk (Kd.V_below (S.v HO208.out) hb)
                                  have n1_ := Aside0.mk (Kd.V_below (S.v HO215.out) hb)
                                  have n2_ := Aside0.mk (Kd.V_below (S.v HO222.out) hb)
                                  have n3_ := Aside0.mk (blk_below (g := gb211) (o := .cells #[.bool t205, .slice Ao88 t206.length co88, .int .i64 t209] 25 (0, 0)) (S.b BK211.out) hb)
                                  have n4_ := Aside0.mk (blk_below (g := gb218) (o := .cells #[.bool t212, .slice Ao93 t213.length co93, .int .i64 t216] 25 (0, 0)) (S.b BK218.out) hb)
                                  have n5_ := Aside0.mk (blk_below (g := gb225) (o := .cells #[.bool t219, .slice Ao99 t220.length co99, .int .i64 t223] 25 (0, 0)) (S.b BK225.out) hb)
                                  have n6_ := Aside0.mk (below_step (by repeat (first | (with_reducible first | exact HB.out | apply below_alloc | apply pw_below_drewN | apply below_drew1 | refine below_set ?_ GE211.out | refine below_set ?_ GE218.out | refine below_set ?_ GE225.out) | exact HB.out)) hb)
                                  clear HO208
                                  clear HO215
                                  clear HO222
                                  clear BK211
                                  clear BK218
                                  clear BK225
                                  clear HB
                                  have HO208 := n0_
                                  have HO215 := n1_
                                  have HO222 := n2_
                                  have BK211 := n3_
                                  have BK218 := n4_
                                  have BK225 := n5_
                                  have HB := n6_
                                  clear n0_ n1_ n2_ n3_ n4_ n5_ n6_
                                  (try clear hb)
                                  (try clear hb2)
                                  (try clear hk)
                                  (try clear hi)
                                  refine hK.out _ _ ⟨(blk_cell BK211.out 0).trans rfl, (blk_cell BK211.out 1).trans rfl, (blk_cell BK211.out 2).trans rfl, (blk_cell BK218.out 0).trans rfl, (blk_cell BK218.out 1).trans rfl, (blk_cell BK218.out 2).trans rfl, (blk_cell BK225.out 0).trans rfl, (blk_cell BK225.out 1).trans rfl, (blk_cell BK225.out 2).trans rfl⟩ (fun hHeld => ?_)
                                  clear hK K
                                  refine norm_ (a' := ?_) ?_ ?_
                                  rotate_left
                                  ·show Act.put _ (some 132) _ = _
                                   simp only [Act.put, List.setIfInBounds_toArray, List.set_cons_zero, List.set_cons_succ, i64_w, i32_w]
                                   rfl
                                  refine pure_ (i := 17) (N := some 133) (v := ?_) (a' := ?_) #[true, true, true, true, true, true, true, true, true, true, true, true, true, true, true, true, true, true, false, false, false, false, false, false, false, false, false, false, false, false, false, false, false, false, false, false, false, false, false, false, false, false, false, false, false, false, false, false, false, false, false, false] rfl rfl (any_of HT_.out (by kernel_rfl)) (fun _ _ _ h => h) (Or.inl ⟨by rfl, ?_⟩) ?_ ?_
                                  rotate_left
                                  ·intro w'
                                   go_simp
                                   with_reducible rfl
                                  rotate_left
                                  ·simp only [Act.put, List.setIfInBounds_toArray, List.set_cons_zero, List.set_cons_succ, i64_w, i32_w]
                                   rfl
                                  refine pure_ (i := 18) (N := some 134) (v := ?_) (a' := ?_) #[true, true, true, true, true, true, true, true, true, true, true, true, true, true, true, true, true, true, true, false, false, false, false, false, false, false, false, false, false, false, false, false, false, false, false, false, false, false, false, false, false, false, false, false, false, false, false, false, false, false, false, false] rfl rfl (any_of HT_.out (by kernel_rfl)) (fun _ _ _ h => h) (Or.inl ⟨by rfl, ?_⟩) ?_ ?_
                                  rotate_left
                                  ·intro w'
                                   go_simp
                                   with_reducible rfl
                                  rotate_left
                                  ·simp only [Act.put, List.setIfInBounds_toArray, List.set_cons_zero, List.set_cons_succ, i64_w, i32_w]
                                   rfl
                                  refine pure_ (i := 19) (N := some 135) (v := ?_) (a' := ?_) #[true, true, true, true, true, true, true, true, true, true, true, true, true, true, true, true, true, true, true, true, false, false, false, false, false, false, false, false, false, false, false, false, false, false, false, false, false, false, false, false, false, false, false, false, false, false, false, false, false, false, false, false] rfl rfl (any_of HT_.out (by kernel_rfl)) (fun _ _ _ h => h) (Or.inl ⟨by rfl, ?_⟩) ?_ ?_
                                  rotate_left
                                  ·intro w'
                                   go_simp
                                   with_reducible rfl
                                  rotate_left
                                  ·simp only [Act.put, List.setIfInBounds_toArray, List.set_cons_zero, List.set_cons_succ, i64_w, i32_w]
                                   rfl
                                  refine take_ (i := 20) (N := some 136) (v := ?_) (a' := ?_) #[true, true, true, true, true, true, true, true, true, true, true, true, true, true, true, true, true, true, true, true, true, false, false, false, false, false, false, false, false, false, false, false, false, false, false, false, false, false, false, false, false, false, false, false, false, false, false, false, false, false, false, false] rfl rfl (take_ofW HT_.out HW_.out (by kernel_rfl)) (fun _ _ _ h => h) (Or.inl ⟨by rfl, ?_⟩) hHeld ?_ ?_
                                  rotate_left
                                  ·rintro w' ⟨s0, s1, s2, s3, s4, s5, s6, s7, s8⟩
                                   go_simp
                                   with_reducible rfl
                                  rotate_left
                                  ·simp only [Act.put, List.setIfInBounds_toArray, List.set_cons_zero, List.set_cons_succ, i64_w, i32_w]
                                   rfl
                                  refine take_ (i := 22) (N := some 138) (v := ?_) (a' := ?_) #[true, true, true, true, true, true, true, true, true, true, true, true, true, true, true, true, true, true, true, true, true, false, true, false, false, false, false, false, false, false, false, false, false, false, false, false, false, false, false, false, false, false, false, false, false, false, false, false, false, false, false, false] rfl rfl (take_ofW HT_.out HW_.out (by kernel_rfl)) (fun _ _ _ h => h) (Or.inl ⟨by rfl, ?_⟩) hHeld ?_ ?_
                                  rotate_left
                                  ·rintro w' ⟨s0, s1, s2, s3, s4, s5, s6, s7, s8⟩
                                   go_simp
                                   with_reducible rfl
                                  rotate_left
                                  ·simp only [Act.put, List.setIfInBounds_toArray, List.set_cons_zero, List.set_cons_succ, i64_w, i32_w]
                                   rfl
                                  refine one_ (i := 21) (N := some 137) #[true, true, true, true, true, true, true, true, true, true, true, true, true, true, true, true, true, true, true, true, true, true, true, false, false, false, false, false, false, false, false, false, false, false, false, false, false, false, false, false, false, false, false, false, false, false, false, false, false, false, false, false] rfl rfl (one_of HT_.out (by kernel_rfl)) (by decide) (fun K hK => ?_)
                                  refine goes_ Try.func10 (by kernel_rfl) rfl #[.agg #[.bool t205, .slice Ao88 t206.length co88, .int .i64 t209]] (by rfl) rfl rfl (by (try simp only [List.map_toArray, List.map_cons, List.map_nil]); first | done | rfl | (simp only [List.length_drop, List.length_take]; rfl)) ?_
                                  with_reducible refine (dec_Dec_Total.calls t205 _ _ t206 t209 t229 _ ?side1 ?side2 A49.out).mono ?_
                                  (case side1 => repeat (first | exact (Kd.V_reads' HO208.out).2.2 | (with_reducible refine Kd.C_alloc ?_ _) | (with_reducible refine Kd.C_drewN ?_ _) | (with_reducible refine Kd.C_drew ?_)))
                                  (case side2 => exact (Kd.V_reads' HO208.out).2.1)
                                  rintro e w105 ⟨rfl, hb⟩
                                  refine ⟨_, rfl, ?_⟩
                                  have n0_ := Aside0.mk (Kd.V_below (S.v HO208.out) hb)
                                  have n1_ := Aside0.mk (Kd.V_below (S.v HO215.out) hb)
                                  have n2_ := Aside0.mk (Kd.V_below (S.v HO222.out) hb)
                                  have n3_ := Aside0.mk (blk_below (g := gb211) (o := .cells #[.bool t205, .slice Ao88 t206.length co88, .int .i64 t209] 25 (0, 0)) (S.b BK211.out) hb)
                                  have n4_ := Aside0.mk (blk_below (g := gb218) (o := .cells #[.bool t212, .slice Ao93 t213.length co93, .int .i64 t216] 25 (0, 0)) (S.b BK218.out) hb)
                                  have n5_ := Aside0.mk (blk_below (g := gb225) (o := .cells #[.bool t219, .slice Ao99 t220.length co99, .int .i64 t223] 25 (0, 0)) (S.b BK225.out) hb)
                                  have n6_ := Aside0.mk (below_step (by repeat (first | (with_reducible first | exact HB.out | apply below_alloc | apply pw_below_drewN | apply below_drew1 | refine below_set ?_ GE211.out | refine below_set ?_ GE218.out | refine below_set ?_ GE225.out) | exact HB.out)) hb)
                                  clear HO208
                                  clear HO215
                                  clear HO222
                                  clear BK211
                                  clear BK218
                                  clear BK225
                                  clear HB
                                  have HO208 := n0_
                                  have HO215 := n1_
                                  have HO222 := n2_
                                  have BK211 := n3_
                                  have BK218 := n4_
                                  have BK225 := n5_
                                  have HB := n6_
                                  clear n0_ n1_ n2_ n3_ n4_ n5_ n6_
                                  (try clear hb)
                                  (try clear hb2)
                                  (try clear hk)
                                  (try clear hi)
                                  refine hK.out _ _ ⟨(blk_cell BK211.out 0).trans rfl, (blk_cell BK211.out 1).trans rfl, (blk_cell BK211.out 2).trans rfl, (blk_cell BK218.out 0).trans rfl, (blk_cell BK218.out 1).trans rfl, (blk_cell BK218.out 2).trans rfl, (blk_cell BK225.out 0).trans rfl, (blk_cell BK225.out 1).trans rfl, (blk_cell BK225.out 2).trans rfl⟩ (fun hHeld => ?_)
                                  clear hK K
                                  refine norm_ (a' := ?_) ?_ ?_
                                  rotate_left
                                  ·show Act.put _ (some 137) _ = _
                                   simp only [Act.put, List.setIfInBounds_toArray, List.set_cons_zero, List.set_cons_succ, i64_w, i32_w]
                                   rfl
                                  refine one_ (i := 23) (N := some 139) #[true, true, true, true, true, true, true, true, true, true, true, true, true, true, true, true, true, true, true, true, true, true, true, true, false, false, false, false, false, false, false, false, false, false, false, false, false, false, false, false, false, false, false, false, false, false, false, false, false, false, false, false] rfl rfl (one_of HT_.out (by kernel_rfl)) (by decide) (fun K hK => ?_)
                                  refine goes_ Try.func10 (by kernel_rfl) rfl #[.agg #[.bool t212, .slice Ao93 t213.length co93, .int .i64 t216]] (by rfl) rfl rfl (by (try simp only [List.map_toArray, List.map_cons, List.map_nil]); first | done | rfl | (simp only [List.length_drop, List.length_take]; rfl)) ?_
                                  with_reducible refine (dec_Dec_Total.calls t212 _ _ t213 t216 t230 _ ?side1 ?side2 A50.out).mono ?_
                                  (case side1 => repeat (first | exact (Kd.V_reads' HO215.out).2.2 | (with_reducible refine Kd.C_alloc ?_ _) | (with_reducible refine Kd.C_drewN ?_ _) | (with_reducible refine Kd.C_drew ?_)))
                                  (case side2 => exact (Kd.V_reads' HO215.out).2.1)
                                  rintro e w106 ⟨rfl, hb⟩
                                  refine ⟨_, rfl, ?_⟩
                                  have n0_ := Aside0.mk (Kd.V_below (S.v HO208.out) hb)
                                  have n1_ := Aside0.mk (Kd.V_below (S.v HO215.out) hb)
                                  have n2_ := Aside0.mk (Kd.V_below (S.v HO222.out) hb)
                                  have n3_ := Aside0.mk (blk_below (g := gb211) (o := .cells #[.bool t205, .slice Ao88 t206.length co88, .int .i64 t209] 25 (0, 0)) (S.b BK211.out) hb)
                                  have n4_ := Aside0.mk (blk_below (g := gb218) (o := .cells #[.bool t212, .slice Ao93 t213.length co93, .int .i64 t216] 25 (0, 0)) (S.b BK218.out) hb)
                                  have n5_ := Aside0.mk (blk_below (g := gb225) (o := .cells #[.bool t219, .slice Ao99 t220.length co99, .int .i64 t223] 25 (0, 0)) (S.b BK225.out) hb)
                                  have n6_ := Aside0.mk (below_step (by repeat (first | (with_reducible first | exact HB.out | apply below_alloc | apply pw_below_drewN | apply below_drew1 | refine below_set ?_ GE211.out | refine below_set ?_ GE218.out | refine below_set ?_ GE225.out) | exact HB.out)) hb)
                                  clear HO208
                                  clear HO215
                                  clear HO222
                                  clear BK211
                                  clear BK218
                                  clear BK225
                                  clear HB
                                  have HO208 := n0_
                                  have HO215 := n1_
                                  have HO222 := n2_
                                  have BK211 := n3_
                                  have BK218 := n4_
                                  have BK225 := n5_
                                  have HB := n6_
                                  clear n0_ n1_ n2_ n3_ n4_ n5_ n6_
                                  (try clear hb)
                                  (try clear hb2)
                                  (try clear hk)
                                  (try clear hi)
                                  refine hK.out _ _ ⟨(blk_cell BK211.out 0).trans rfl, (blk_cell BK211.out 1).trans rfl, (blk_cell BK211.out 2).trans rfl, (blk_cell BK218.out 0).trans rfl, (blk_cell BK218.out 1).trans rfl, (blk_cell BK218.out 2).trans rfl, (blk_cell BK225.out 0).trans rfl, (blk_cell BK225.out 1).trans rfl, (blk_cell BK225.out 2).trans rfl⟩ (fun hHeld => ?_)
                                  clear hK K
                                  refine norm_ (a' := ?_) ?_ ?_
                                  rotate_left
                                  ·show Act.put _ (some 139) _ = _
                                   simp only [Act.put, List.setIfInBounds_toArray, List.set_cons_zero, List.set_cons_succ, i64_w, i32_w]
                                   rfl
                                  refine pure_ (i := 24) (N := some 140) (v := ?_) (a' := ?_) #[true, true, true, true, true, true, true, true, true, true, true, true, true, true, true, true, true, true, true, true, true, true, true, true, true, false, false, false, false, false, false, false, false, false, false, false, false, false, false, false, false, false, false, false, false, false, false, false, false, false, false, false] rfl rfl (any_of HT_.out (by kernel_rfl)) (fun _ _ _ h => h) (Or.inl ⟨by rfl, ?_⟩) ?_ ?_
                                  rotate_left
                                  ·intro w'
                                   go_simp
                                   with_reducible rfl
                                  rotate_left
                                  ·simp only [Act.put, List.setIfInBounds_toArray, List.set_cons_zero, List.set_cons_succ, i64_w, i32_w]
                                   rfl
                                  refine pure_ (i := 25) (N := some 141) (v := ?_) (a' := ?_) #[true, true, true, true, true, true, true, true, true, true, true, true, true, true, true, true, true, true, true, true, true, true, true, true, true, true, false, false, false, false, false, false, false, false, false, false, false, false, false, false, false, false, false, false, false, false, false, false, false, false, false, false] rfl rfl (any_of HT_.out (by kernel_rfl)) (fun _ _ _ h => h) (Or.inl ⟨by rfl, ?_⟩) ?_ ?_
                                  rotate_left
                                  ·intro w'
                                   go_simp
                                   with_reducible rfl
                                  rotate_left
                                  ·simp only [Act.put, List.setIfInBounds_toArray, List.set_cons_zero, List.set_cons_succ, i64_w, i32_w]
                                   rfl
                                  refine pure_ (i := 26) (N := some 142) (v := ?_) (a' := ?_) #[true, true, true, true, true, true, true, true, true, true, true, true, true, true, true, true, true, true, true, true, true, true, true, true, true, true, true, false, false, false, false, false, false, false, false, false, false, false, false, false, false, false, false, false, false, false, false, false, false, false, false, false] rfl rfl (any_of HT_.out (by kernel_rfl)) (fun _ _ _ h => h) (Or.inl ⟨by rfl, ?_⟩) ?_ ?_
                                  rotate_left
                                  ·intro w'
                                   go_simp
                                   with_reducible rfl
                                  rotate_left
                                  ·simp only [Act.put, List.setIfInBounds_toArray, List.set_cons_zero, List.set_cons_succ, i64_w, i32_w]
                                   rfl
                                  refine take_ (i := 27) (N := some 143) (v := ?_) (a' := ?_) #[true, true, true, true, true, true, true, true, true, true, true, true, true, true, true, true, true, true, true, true, true, true, true, true, true, true, true, true, false, false, false, false, false, false, false, false, false, false, false, false, false, false, false, false, false, false, false, false, false, false, false, false] rfl rfl (take_ofW HT_.out HW_.out (by kernel_rfl)) (fun _ _ _ h => h) (Or.inl ⟨by rfl, ?_⟩) hHeld ?_ ?_
                                  rotate_left
                                  ·rintro w' ⟨s0, s1, s2, s3, s4, s5, s6, s7, s8⟩
                                   go_simp
                                   with_reducible rfl
                                  rotate_left
                                  ·simp only [Act.put, List.setIfInBounds_toArray, List.set_cons_zero, List.set_cons_succ, i64_w, i32_w]
                                   rfl
                                  refine take_ (i := 29) (N := some 145) (v := ?_) (a' := ?_) #[true, true, true, true, true, true, true, true, true, true, true, true, true, true, true, true, true, true, true, true, true, true, true, true, true, true, true, true, false, true, false, false, false, false, false, false, false, false, false, false, false, false, false, false, false, false, false, false, false, false, false, false] rfl rfl (take_ofW HT_.out HW_.out (by kernel_rfl)) (fun _ _ _ h => h) (Or.inl ⟨by rfl, ?_⟩) hHeld ?_ ?_
                                  rotate_left
                                  ·rintro w' ⟨s0, s1, s2, s3, s4, s5, s6, s7, s8⟩
                                   go_simp
                                   with_reducible rfl
                                  rotate_left
                                  ·simp only [Act.put, List.setIfInBounds_toArray, List.set_cons_zero, List.set_cons_succ, i64_w, i32_w]
                                   rfl
                                  refine one_ (i := 28) (N := some 144) #[true, true, true, true, true, true, true, true, true, true, true, true, true, true, true, true, true, true, true, true, true, true, true, true, true, true, true, true, true, true, false, false, false, false, false, false, false, false, false, false, false, false, false, false, false, false, false, false, false, false, false, false] rfl rfl (one_of HT_.out (by kernel_rfl)) (by decide) (fun K hK => ?_)
                                  refine goes_ Try.func11 (by kernel_rfl) rfl #[.agg #[.bool t205, .slice Ao88 t206.length co88, .int .i64 t209]] (by rfl) rfl rfl (by (try simp only [List.map_toArray, List.map_cons, List.map_nil]); first | done | rfl | (simp only [List.length_drop, List.length_take]; rfl)) ?_
                                  with_reducible refine (dec_Dec_Fraction.calls t205 _ _ t206 t209 t231 _ ?side1 ?side2 A52.out).mono ?_
                                  (case side1 => repeat (first | exact (Kd.V_reads' HO208.out).2.2 | (with_reducible refine Kd.C_alloc ?_ _) | (with_reducible refine Kd.C_drewN ?_ _) | (with_reducible refine Kd.C_drew ?_)))
                                  (case side2 => exact (Kd.V_reads' HO208.out).2.1)
                                  rintro e w107 ⟨rfl, hb⟩
                                  refine ⟨_, rfl, ?_⟩
                                  have n0_ := Aside0.mk (Kd.V_below (S.v HO208.out) hb)
                                  have n1_ := Aside0.mk (Kd.V_below (S.v HO215.out) hb)
                                  have n2_ := Aside0.mk (Kd.V_below (S.v HO222.out) hb)
                                  have n3_ := Aside0.mk (blk_below (g := gb211) (o := .cells #[.bool t205, .slice Ao88 t206.length co88, .int .i64 t209] 25 (0, 0)) (S.b BK211.out) hb)
                                  have n4_ := Aside0.mk (blk_below (g := gb218) (o := .cells #[.bool t212, .slice Ao93 t213.length co93, .int .i64 t216] 25 (0, 0)) (S.b BK218.out) hb)
                                  have n5_ := Aside0.mk (blk_below (g := gb225) (o := .cells #[.bool t219, .slice Ao99 t220.length co99, .int .i64 t223] 25 (0, 0)) (S.b BK225.out) hb)
                                  have n6_ := Aside0.mk (below_step (by repeat (first | (with_reducible first | exact HB.out | apply below_alloc | apply pw_below_drewN | apply below_drew1 | refine below_set ?_ GE211.out | refine below_set ?_ GE218.out | refine below_set ?_ GE225.out) | exact HB.out)) hb)
                                  clear HO208
                                  clear HO215
                                  clear HO222
                                  clear BK211
                                  clear BK218
                                  clear BK225
                                  clear HB
                                  have HO208 := n0_
                                  have HO215 := n1_
                                  have HO222 := n2_
                                  have BK211 := n3_
                                  have BK218 := n4_
                                  have BK225 := n5_
                                  have HB := n6_
                                  clear n0_ n1_ n2_ n3_ n4_ n5_ n6_
                                  (try clear hb)
                                  (try clear hb2)
                                  (try clear hk)
                                  (try clear hi)
                                  refine hK.out _ _ ⟨(blk_cell BK211.out 0).trans rfl, (blk_cell BK211.out 1).trans rfl, (blk_cell BK211.out 2).trans rfl, (blk_cell BK218.out 0).trans rfl, (blk_cell BK218.out 1).trans rfl, (blk_cell BK218.out 2).trans rfl, (blk_cell BK225.out 0).trans rfl, (blk_cell BK225.out 1).trans rfl, (blk_cell BK225.out 2).trans rfl⟩ (fun hHeld => ?_)
                                  clear hK K
                                  refine norm_ (a' := ?_) ?_ ?_
                                  rotate_left
                                  ·show Act.put _ (some 144) _ = _
                                   simp only [Act.put, List.setIfInBounds_toArray, List.set_cons_zero, List.set_cons_succ, i64_w, i32_w]
                                   rfl
                                  refine one_ (i := 30) (N := some 146) #[true, true, true, true, true, true, true, true, true, true, true, true, true, true, true, true, true, true, true, true, true, true, true, true, true, true, true, true, true, true, true, false, false, false, false, false, false, false, false, false, false, false, false, false, false, false, false, false, false, false, false, false] rfl rfl (one_of HT_.out (by kernel_rfl)) (by decide) (fun K hK => ?_)
                                  refine goes_ Try.func11 (by kernel_rfl) rfl #[.agg #[.bool t212, .slice Ao93 t213.length co93, .int .i64 t216]] (by rfl) rfl rfl (by (try simp only [List.map_toArray, List.map_cons, List.map_nil]); first | done | rfl | (simp only [List.length_drop, List.length_take]; rfl)) ?_
                                  with_reducible refine (dec_Dec_Fraction.calls t212 _ _ t213 t216 t232 _ ?side1 ?side2 A53.out).mono ?_
                                  (case side1 => repeat (first | exact (Kd.V_reads' HO215.out).2.2 | (with_reducible refine Kd.C_alloc ?_ _) | (with_reducible refine Kd.C_drewN ?_ _) | (with_reducible refine Kd.C_drew ?_)))
                                  (case side2 => exact (Kd.V_reads' HO215.out).2.1)
                                  rintro e w108 ⟨rfl, hb⟩
                                  refine ⟨_, rfl, ?_⟩
                                  have n0_ := Aside0.mk (Kd.V_below (S.v HO208.out) hb)
                                  have n1_ := Aside0.mk (Kd.V_below (S.v HO215.out) hb)
                                  have n2_ := Aside0.mk (Kd.V_below (S.v HO222.out) hb)
                                  have n3_ := Aside0.mk (blk_below (g := gb211) (o := .cells #[.bool t205, .slice Ao88 t206.length co88, .int .i64 t209] 25 (0, 0)) (S.b BK211.out) hb)
                                  have n4_ := Aside0.mk (blk_below (g := gb218) (o := .cells #[.bool t212, .slice Ao93 t213.length co93, .int .i64 t216] 25 (0, 0)) (S.b BK218.out) hb)
                                  have n5_ := Aside0.mk (blk_below (g := gb225) (o := .cells #[.bool t219, .slice Ao99 t220.length co99, .int .i64 t223] 25 (0, 0)) (S.b BK225.out) hb)
                                  have n6_ := Aside0.mk (below_step (by repeat (first | (with_reducible first | exact HB.out | apply below_alloc | apply pw_below_drewN | apply below_drew1 | refine below_set ?_ GE211.out | refine below_set ?_ GE218.out | refine below_set ?_ GE225.out) | exact HB.out)) hb)
                                  clear HO208
                                  clear HO215
                                  clear HO222
                                  clear BK211
                                  clear BK218
                                  clear BK225
                                  clear HB
                                  have HO208 := n0_
                                  have HO215 := n1_
                                  have HO222 := n2_
                                  have BK211 := n3_
                                  have BK218 := n4_
                                  have BK225 := n5_
                                  have HB := n6_
                                  clear n0_ n1_ n2_ n3_ n4_ n5_ n6_
                                  (try clear hb)
                                  (try clear hb2)
                                  (try clear hk)
                                  (try clear hi)
                                  refine hK.out _ _ ⟨(blk_cell BK211.out 0).trans rfl, (blk_cell BK211.out 1).trans rfl, (blk_cell BK211.out 2).trans rfl, (blk_cell BK218.out 0).trans rfl, (blk_cell BK218.out 1).trans rfl, (blk_cell BK218.out 2).trans rfl, (blk_cell BK225.out 0).trans rfl, (blk_cell BK225.out 1).trans rfl, (blk_cell BK225.out 2).trans rfl⟩ (fun hHeld => ?_)
                                  clear hK K
                                  refine norm_ (a' := ?_) ?_ ?_
                                  rotate_left
                                  ·show Act.put _ (some 146) _ = _
                                   simp only [Act.put, List.setIfInBounds_toArray, List.set_cons_zero, List.set_cons_succ, i64_w, i32_w]
                                   rfl
                                  refine pure_ (i := 31) (N := some 147) (v := ?_) (a' := ?_) #[true, true, true, true, true, true, true, true, true, true, true, true, true, true, true, true, true, true, true, true, true, true, true, true, true, true, true, true, true, true, true, true, false, false, false, false, false, false, false, false, false, false, false, false, false, false, false, false, false, false, false, false] rfl rfl (any_of HT_.out (by kernel_rfl)) (fun _ _ _ h => h) (Or.inl ⟨by rfl, ?_⟩) ?_ ?_
                                  rotate_left
                                  ·intro w'
                                   go_simp
                                   with_reducible rfl
                                  rotate_left
                                  ·simp only [Act.put, List.setIfInBounds_toArray, List.set_cons_zero, List.set_cons_succ, i64_w, i32_w]
                                   rfl
                                  refine pure_ (i := 32) (N := some 148) (v := ?_) (a' := ?_) #[true, true, true, true, true, true, true, true, true, true, true, true, true, true, true, true, true, true, true, true, true, true, true, true, true, true, true, true, true, true, true, true, true, false, false, false, false, false, false, false, false, false, false, false, false, false, false, false, false, false, false, false] rfl rfl (any_of HT_.out (by kernel_rfl)) (fun _ _ _ h => h) (Or.inl ⟨by rfl, ?_⟩) ?_ ?_
                                  rotate_left
                                  ·intro w'
                                   go_simp
                                   with_reducible rfl
                                  rotate_left
                                  ·simp only [Act.put, List.setIfInBounds_toArray, List.set_cons_zero, List.set_cons_succ, i64_w, i32_w]
                                   rfl
                                  refine pure_ (i := 33) (N := some 149) (v := ?_) (a' := ?_) #[true, true, true, true, true, true, true, true, true, true, true, true, true, true, true, true, true, true, true, true, true, true, true, true, true, true, true, true, true, true, true, true, true, true, false, false, false, false, false, false, false, false, false, false, false, false, false, false, false, false, false, false] rfl rfl (any_of HT_.out (by kernel_rfl)) (fun _ _ _ h => h) (Or.inl ⟨by rfl, ?_⟩) ?_ ?_
                                  rotate_left
                                  ·intro w'
                                   go_simp
                                   with_reducible rfl
                                  rotate_left
                                  ·simp only [Act.put, List.setIfInBounds_toArray, List.set_cons_zero, List.set_cons_succ, i64_w, i32_w]
                                   rfl
                                  refine pure_ (i := 34) (N := some 150) (v := ?_) (a' := ?_) #[true, true, true, true, true, true, true, true, true, true, true, true, true, true, true, true, true, true, true, true, true, true, true, true, true, true, true, true, true, true, true, true, true, true, true, false, false, false, false, false, false, false, false, false, false, false, false, false, false, false, false, false] rfl rfl (any_of HT_.out (by kernel_rfl)) (fun _ _ _ h => h) (Or.inl ⟨by rfl, ?_⟩) ?_ ?_
                                  rotate_left
                                  ·intro w'
                                   go_simp
                                   with_reducible rfl
                                  rotate_left
                                  ·simp only [Act.put, List.setIfInBounds_toArray, List.set_cons_zero, List.set_cons_succ, i64_w, i32_w]
                                   rfl
                                  refine pure_ (i := 35) (N := some 151) (v := ?_) (a' := ?_) #[true, true, true, true, true, true, true, true, true, true, true, true, true, true, true, true, true, true, true, true, true, true, true, true, true, true, true, true, true, true, true, true, true, true, true, true, false, false, false, false, false, false, false, false, false, false, false, false, false, false, false, false] rfl rfl (any_of HT_.out (by kernel_rfl)) (fun _ _ _ h => h) (Or.inl ⟨by rfl, ?_⟩) ?_ ?_
                                  rotate_left
                                  ·intro w'
                                   go_simp
                                   with_reducible rfl
                                  rotate_left
                                  ·simp only [Act.put, List.setIfInBounds_toArray, List.set_cons_zero, List.set_cons_succ, i64_w, i32_w]
                                   rfl
                                  refine pure_ (i := 36) (N := some 152) (v := ?_) (a' := ?_) #[true, true, true, true, true, true, true, true, true, true, true, true, true, true, true, true, true, true, true, true, true, true, true, true, true, true, true, true, true, true, true, true, true, true, true, true, true, false, false, false, false, false, false, false, false, false, false, false, false, false, false, false] rfl rfl (any_of HT_.out (by kernel_rfl)) (fun _ _ _ h => h) (Or.inl ⟨by rfl, ?_⟩) ?_ ?_
                                  rotate_left
                                  ·intro w'
                                   go_simp
                                   with_reducible rfl
                                  rotate_left
                                  ·simp only [Act.put, List.setIfInBounds_toArray, List.set_cons_zero, List.set_cons_succ, i64_w, i32_w]
                                   rfl
                                  refine pure_ (i := 37) (N := some 153) (v := ?_) (a' := ?_) #[true, true, true, true, true, true, true, true, true, true, true, true, true, true, true, true, true, true, true, true, true, true, true, true, true, true, true, true, true, true, true, true, true, true, true, true, true, true, false, false, false, false, false, false, false, false, false, false, false, false, false, false] rfl rfl (any_of HT_.out (by kernel_rfl)) (fun _ _ _ h => h) (Or.inl ⟨by rfl, ?_⟩) ?_ ?_
                                  rotate_left
                                  ·intro w'
                                   go_simp
                                   with_reducible rfl
                                  rotate_left
                                  ·simp only [Act.put, List.setIfInBounds_toArray, List.set_cons_zero, List.set_cons_succ, i64_w, i32_w]
                                   rfl
                                  refine take_ (i := 38) (N := some 154) (v := ?_) (a' := ?_) #[true, true, true, true, true, true, true, true, true, true, true, true, true, true, true, true, true, true, true, true, true, true, true, true, true, true, true, true, true, true, true, true, true, true, true, true, true, true, true, false, false, false, false, false, false, false, false, false, false, false, false, false] rfl rfl (take_ofW HT_.out HW_.out (by kernel_rfl)) (fun _ _ _ h => h) (Or.inl ⟨by rfl, ?_⟩) hHeld ?_ ?_
                                  rotate_left
                                  ·rintro w' ⟨s0, s1, s2, s3, s4, s5, s6, s7, s8⟩
                                   go_simp
                                   with_reducible rfl
                                  rotate_left
                                  ·simp only [Act.put, List.setIfInBounds_toArray, List.set_cons_zero, List.set_cons_succ, i64_w, i32_w]
                                   rfl
                                  refine take_ (i := 39) (N := some 155) (v := ?_) (a' := ?_) #[true, true, true, true, true, true, true, true, true, true, true, true, true, true, true, true, true, true, true, true, true, true, true, true, true, true, true, true, true, true, true, true, true, true, true, true, true, true, true, true, false, false, false, false, false, false, false, false, false, false, false, false] rfl rfl (take_ofW HT_.out HW_.out (by kernel_rfl)) (fun _ _ _ h => h) (Or.inl ⟨by rfl, ?_⟩) hHeld ?_ ?_
                                  rotate_left
                                  ·rintro w' ⟨s0, s1, s2, s3, s4, s5, s6, s7, s8⟩
                                   go_simp
                                   with_reducible rfl
                                  rotate_left
                                  ·simp only [Act.put, List.setIfInBounds_toArray, List.set_cons_zero, List.set_cons_succ, i64_w, i32_w]
                                   rfl
                                  refine one_ (i := 40) (N := some 156) #[true, true, true, true, true, true, true, true, true, true, true, true, true, true, true, true, true, true, true, true, true, true, true, true, true, true, true, true, true, true, true, true, true, true, true, true, true, true, true, true, true, false, false, false, false, false, false, false, false, false, false, false] rfl rfl (one_of HT_.out (by kernel_rfl)) (by decide) (fun K hK => ?_)
                                  refine goes_ Try.func8 (by kernel_rfl) rfl #[.agg #[.bool t205, .slice Ao88 t206.length co88, .int .i64 t209], .agg #[.bool t219, .slice Ao99 t220.length co99, .int .i64 t223]] (by rfl) rfl rfl (by (try simp only [List.map_toArray, List.map_cons, List.map_nil]); first | done | rfl | (simp only [List.length_drop, List.length_take]; rfl)) ?_
                                  with_reducible refine (dec_Cmp.calls kj26 t205 _ _ t206 t209 t219 _ _ t220 t223 t234 _ ?side1 ?side2 ?side3 ?side4 A82.out).mono ?_
                                  (case side1 => repeat (first | exact (Kd.V_reads' HO208.out).2.2 | (with_reducible refine Kd.C_alloc ?_ _) | (with_reducible refine Kd.C_drewN ?_ _) | (with_reducible refine Kd.C_drew ?_)))
                                  (case side2 => exact (Kd.V_reads' HO208.out).2.1)
                                  (case side3 => repeat (first | exact (Kd.V_reads' HO222.out).2.2 | (with_reducible refine Kd.C_alloc ?_ _) | (with_reducible refine Kd.C_drewN ?_ _) | (with_reducible refine Kd.C_drew ?_)))
                                  (case side4 => exact (Kd.V_reads' HO222.out).2.1)
                                  rintro e w109 ⟨rfl, hb⟩
                                  refine ⟨_, rfl, ?_⟩
                                  have n0_ := Aside0.mk (Kd.V_below (S.v HO208.out) hb)
                                  have n1_ := Aside0.mk (Kd.V_below (S.v HO215.out) hb)
                                  have n2_ := Aside0.mk (Kd.V_below (S.v HO222.out) hb)
                                  have n3_ := Aside0.mk (blk_below (g := gb211) (o := .cells #[.bool t205, .slice Ao88 t206.length co88, .int .i64 t209] 25 (0, 0)) (S.b BK211.out) hb)
                                  have n4_ := Aside0.mk (blk_below (g := gb218) (o := .cells #[.bool t212, .slice Ao93 t213.length co93, .int .i64 t216] 25 (0, 0)) (S.b BK218.out) hb)
                                  have n5_ := Aside0.mk (blk_below (g := gb225) (o := .cells #[.bool t219, .slice Ao99 t220.length co99, .int .i64 t223] 25 (0, 0)) (S.b BK225.out) hb)
                                  have n6_ := Aside0.mk (below_step (by repeat (first | (with_reducible first | exact HB.out | apply below_alloc | apply pw_below_drewN | apply below_drew1 | refine below_set ?_ GE211.out | refine below_set ?_ GE218.out | refine below_set ?_ GE225.out) | exact HB.out)) hb)
                                  clear HO208
                                  clear HO215
                                  clear HO222
                                  clear BK211
                                  clear BK218
                                  clear BK225
                                  clear HB
                                  have HO208 := n0_
                                  have HO215 := n1_
                                  have HO222 := n2_
                                  have BK211 := n3_
                                  have BK218 := n4_
                                  have BK225 := n5_
                                  have HB := n6_
                                  clear n0_ n1_ n2_ n3_ n4_ n5_ n6_
                                  (try clear hb)
                                  (try clear hb2)
                                  (try clear hk)
                                  (try clear hi)
                                  refine hK.out _ _ ⟨(blk_cell BK211.out 0).trans rfl, (blk_cell BK211.out 1).trans rfl, (blk_cell BK211.out 2).trans rfl, (blk_cell BK218.out 0).trans rfl, (blk_cell BK218.out 1).trans rfl, (blk_cell BK218.out 2).trans rfl, (blk_cell BK225.out 0).trans rfl, (blk_cell BK225.out 1).trans rfl, (blk_cell BK225.out 2).trans rfl⟩ (fun hHeld => ?_)
                                  clear hK K
                                  refine norm_ (a' := ?_) ?_ ?_
                                  rotate_left
                                  ·show Act.put _ (some 156) _ = _
                                   simp only [Act.put, List.setIfInBounds_toArray, List.set_cons_zero, List.set_cons_succ, i64_w, i32_w]
                                   rfl
                                  refine pure_ (i := 41) (N := some 157) (v := ?_) (a' := ?_) #[true, true, true, true, true, true, true, true, true, true, true, true, true, true, true, true, true, true, true, true, true, true, true, true, true, true, true, true, true, true, true, true, true, true, true, true, true, true, true, true, true, true, false, false, false, false, false, false, false, false, false, false] rfl rfl (any_of HT_.out (by kernel_rfl)) (fun _ _ _ h => h) (Or.inl ⟨by rfl, ?_⟩) ?_ ?_
                                  rotate_left
                                  ·intro w'
                                   go_simp
                                   with_reducible rfl
                                  rotate_left
                                  ·simp only [Act.put, List.setIfInBounds_toArray, List.set_cons_zero, List.set_cons_succ, i64_w, i32_w]
                                   rfl
                                  refine pure_ (i := 42) (N := some 158) (v := ?_) (a' := ?_) #[true, true, true, true, true, true, true, true, true, true, true, true, true, true, true, true, true, true, true, true, true, true, true, true, true, true, true, true, true, true, true, true, true, true, true, true, true, true, true, true, true, true, true, false, false, false, false, false, false, false, false, false] rfl rfl (any_of HT_.out (by kernel_rfl)) (fun _ _ _ h => h) (Or.inl ⟨by rfl, ?_⟩) ?_ ?_
                                  rotate_left
                                  ·intro w'
                                   go_simp
                                   with_reducible rfl
                                  rotate_left
                                  ·simp only [Act.put, List.setIfInBounds_toArray, List.set_cons_zero, List.set_cons_succ, i64_w, i32_w]
                                   rfl
                                  refine pure_ (i := 43) (N := some 159) (v := ?_) (a' := ?_) #[true, true, true, true, true, true, true, true, true, true, true, true, true, true, true, true, true, true, true, true, true, true, true, true, true, true, true, true, true, true, true, true, true, true, true, true, true, true, true, true, true, true, true, true, false, false, false, false, false, false, false, false] rfl rfl (any_of HT_.out (by kernel_rfl)) (fun _ _ _ h => h) (Or.inl ⟨by rfl, ?_⟩) ?_ ?_
                                  rotate_left
                                  ·intro w'
                                   go_simp
                                   with_reducible rfl
                                  rotate_left
                                  ·simp only [Act.put, List.setIfInBounds_toArray, List.set_cons_zero, List.set_cons_succ, i64_w, i32_w]
                                   rfl
                                  refine pure_ (i := 44) (N := some 160) (v := ?_) (a' := ?_) #[true, true, true, true, true, true, true, true, true, true, true, true, true, true, true, true, true, true, true, true, true, true, true, true, true, true, true, true, true, true, true, true, true, true, true, true, true, true, true, true, true, true, true, true, true, false, false, false, false, false, false, false] rfl rfl (any_of HT_.out (by kernel_rfl)) (fun _ _ _ h => h) (Or.inl ⟨by rfl, ?_⟩) ?_ ?_
                                  rotate_left
                                  ·intro w'
                                   go_simp
                                   with_reducible rfl
                                  rotate_left
                                  ·simp only [Act.put, List.setIfInBounds_toArray, List.set_cons_zero, List.set_cons_succ, i64_w, i32_w]
                                   rfl
                                  refine pure_ (i := 47) (N := some 163) (v := ?_) (a' := ?_) #[true, true, true, true, true, true, true, true, true, true, true, true, true, true, true, true, true, true, true, true, true, true, true, true, true, true, true, true, true, true, true, true, true, true, true, true, true, true, true, true, true, true, true, true, true, false, false, true, false, false, false, false] rfl rfl (any_of HT_.out (by kernel_rfl)) (fun _ _ _ h => h) (Or.inl ⟨by rfl, ?_⟩) ?_ ?_
                                  rotate_left
                                  ·intro w'
                                   go_simp
                                   with_reducible rfl
                                  rotate_left
                                  ·simp only [Act.put, List.setIfInBounds_toArray, List.set_cons_zero, List.set_cons_succ, i64_w, i32_w]
                                   rfl
                                  refine pure_ (i := 48) (N := some 164) (v := ?_) (a' := ?_) #[true, true, true, true, true, true, true, true, true, true, true, true, true, true, true, true, true, true, true, true, true, true, true, true, true, true, true, true, true, true, true, true, true, true, true, true, true, true, true, true, true, true, true, true, true, false, false, true, true, false, false, false] rfl rfl (any_of HT_.out (by kernel_rfl)) (fun _ _ _ h => h) (Or.inl ⟨by rfl, ?_⟩) ?_ ?_
                                  rotate_left
                                  ·intro w'
                                   go_simp
                                   with_reducible rfl
                                  rotate_left
                                  ·simp only [Act.put, List.setIfInBounds_toArray, List.set_cons_zero, List.set_cons_succ, i64_w, i32_w]
                                   rfl
                                  refine take_ (i := 45) (N := some 161) (v := ?_) (a' := ?_) #[true, true, true, true, true, true, true, true, true, true, true, true, true, true, true, true, true, true, true, true, true, true, true, true, true, true, true, true, true, true, true, true, true, true, true, true, true, true, true, true, true, true, true, true, true, true, false, true, true, false, false, false] rfl rfl (take_ofW HT_.out HW_.out (by kernel_rfl)) (fun _ _ _ h => h) (Or.inl ⟨by rfl, ?_⟩) hHeld ?_ ?_
                                  rotate_left
                                  ·rintro w' ⟨s0, s1, s2, s3, s4, s5, s6, s7, s8⟩
                                   go_simp
                                   with_reducible rfl
                                  rotate_left
                                  ·simp only [Act.put, List.setIfInBounds_toArray, List.set_cons_zero, List.set_cons_succ, i64_w, i32_w]
                                   rfl
                                  refine one_ (i := 46) (N := some 162) #[true, true, true, true, true, true, true, true, true, true, true, true, true, true, true, true, true, true, true, true, true, true, true, true, true, true, true, true, true, true, true, true, true, true, true, true, true, true, true, true, true, true, true, true, true, true, true, true, true, false, false, false] rfl rfl (one_of HT_.out (by kernel_rfl)) (by decide) (fun K hK => ?_)
                                  refine goes_ Try.func11 (by kernel_rfl) rfl #[.agg #[.bool t205, .slice Ao88 t206.length co88, .int .i64 t209]] (by rfl) rfl rfl (by (try simp only [List.map_toArray, List.map_cons, List.map_nil]); first | done | rfl | (simp only [List.length_drop, List.length_take]; rfl)) ?_
                                  with_reducible refine (dec_Dec_Fraction.calls t205 _ _ t206 t209 t235 _ ?side1 ?side2 A84.out).mono ?_
                                  (case side1 => repeat (first | exact (Kd.V_reads' HO208.out).2.2 | (with_reducible refine Kd.C_alloc ?_ _) | (with_reducible refine Kd.C_drewN ?_ _) | (with_reducible refine Kd.C_drew ?_)))
                                  (case side2 => exact (Kd.V_reads' HO208.out).2.1)
                                  rintro e w110 ⟨rfl, hb⟩
                                  refine ⟨_, rfl, ?_⟩
                                  have n0_ := Aside0.mk (Kd.V_below (S.v HO208.out) hb)
                                  have n1_ := Aside0.mk (Kd.V_below (S.v HO215.out) hb)
                                  have n2_ := Aside0.mk (Kd.V_below (S.v HO222.out) hb)
                                  have n3_ := Aside0.mk (blk_below (g := gb211) (o := .cells #[.bool t205, .slice Ao88 t206.length co88, .int .i64 t209] 25 (0, 0)) (S.b BK211.out) hb)
                                  have n4_ := Aside0.mk (blk_below (g := gb218) (o := .cells #[.bool t212, .slice Ao93 t213.length co93, .int .i64 t216] 25 (0, 0)) (S.b BK218.out) hb)
                                  have n5_ := Aside0.mk (blk_below (g := gb225) (o := .cells #[.bool t219, .slice Ao99 t220.length co99, .int .i64 t223] 25 (0, 0)) (S.b BK225.out) hb)
                                  have n6_ := Aside0.mk (below_step (by repeat (first | (with_reducible first | exact HB.out | apply below_alloc | apply pw_below_drewN | apply below_drew1 | refine below_set ?_ GE211.out | refine below_set ?_ GE218.out | refine below_set ?_ GE225.out) | exact HB.out)) hb)
                                  clear HO208
                                  clear HO215
                                  clear HO222
                                  clear BK211
                                  clear BK218
                                  clear BK225
                                  clear HB
                                  have HO208 := n0_
                                  have HO215 := n1_
                                  have HO222 := n2_
                                  have BK211 := n3_
                                  have BK218 := n4_
                                  have BK225 := n5_
                                  have HB := n6_
                                  clear n0_ n1_ n2_ n3_ n4_ n5_ n6_
                                  (try clear hb)
                                  (try clear hb2)
                                  (try clear hk)
                                  (try clear hi)
                                  refine hK.out _ _ ⟨(blk_cell BK211.out 0).trans rfl, (blk_cell BK211.out 1).trans rfl, (blk_cell BK211.out 2).trans rfl, (blk_cell BK218.out 0).trans rfl, (blk_cell BK218.out 1).trans rfl, (blk_cell BK218.out 2).trans rfl, (blk_cell BK225.out 0).trans rfl, (blk_cell BK225.out 1).trans rfl, (blk_cell BK225.out 2).trans rfl⟩ (fun hHeld => ?_)
                                  clear hK K
                                  refine norm_ (a' := ?_) ?_ ?_
                                  rotate_left
                                  ·show Act.put _ (some 162) _ = _
                                   simp only [Act.put, List.setIfInBounds_toArray, List.set_cons_zero, List.set_cons_succ, i64_w, i32_w]
                                   rfl
                                  refine pure_ (i := 49) (N := some 165) (v := ?_) (a' := ?_) #[true, true, true, true, true, true, true, true, true, true, true, true, true, true, true, true, true, true, true, true, true, true, true, true, true, true, true, true, true, true, true, true, true, true, true, true, true, true, true, true, true, true, true, true, true, true, true, true, true, true, false, false] rfl rfl (any_of HT_.out (by kernel_rfl)) (fun _ _ _ h => h) (Or.inl ⟨by rfl, ?_⟩) ?_ ?_
                                  rotate_left
                                  ·intro w'
                                   go_simp
                                   with_reducible rfl
                                  rotate_left
                                  ·simp only [Act.put, List.setIfInBounds_toArray, List.set_cons_zero, List.set_cons_succ, i64_w, i32_w]
                                   rfl
                                  refine pure_ (i := 50) (N := some 166) (v := ?_) (a' := ?_) #[true, true, true, true, true, true, true, true, true, true, true, true, true, true, true, true, true, true, true, true, true, true, true, true, true, true, true, true, true, true, true, true, true, true, true, true, true, true, true, true, true, true, true, true, true, true, true, true, true, true, true, false] rfl rfl (any_of HT_.out (by kernel_rfl)) (fun _ _ _ h => h) (Or.inl ⟨by rfl, ?_⟩) ?_ ?_
                                  rotate_left
                                  ·intro w'
                                   go_simp
                                   with_reducible rfl
                                  rotate_left
                                  ·simp only [Act.put, List.setIfInBounds_toArray, List.set_cons_zero, List.set_cons_succ, i64_w, i32_w]
                                   rfl
                                  refine pure_ (i := 51) (N := some 8) (v := ?_) (a' := ?_) #[true, true, true, true, true, true, true, true, true, true, true, true, true, true, true, true, true, true, true, true, true, true, true, true, true, true, true, true, true, true, true, true, true, true, true, true, true, true, true, true, true, true, true, true, true, true, true, true, true, true, true, true] rfl rfl (any_of HT_.out (by kernel_rfl)) (fun _ _ _ h => h) (Or.inl ⟨by rfl, ?_⟩) ?_ ?_
                                  rotate_left
                                  ·intro w'
                                   go_simp
                                   with_reducible rfl
                                  rotate_left
                                  ·simp only [Act.put, List.setIfInBounds_toArray, List.set_cons_zero, List.set_cons_succ, i64_w, i32_w]
                                   rfl
                                  refine done_ (done_of HT_.out (by kernel_rfl)) ?_
                                  try go_wp2
                                  go_ret
                                  exact ⟨by first | rfl | (simp [errW_none, errW_some] <;> rfl) | (simp [*, errW_none, errW_some] <;> rfl), by repeat (first | (with_reducible first | exact HB.out | apply below_alloc | apply pw_below_drewN | apply below_drew1 | refine below_set ?_ GE211.out | refine below_set ?_ GE218.out | refine below_set ?_ GE225.out) | exact HB.out)⟩
                                 ·rw [if_neg c83] at H
                                  have c83b0 : (t234 == 0) = false := beq_eq_false_iff_ne.mpr c83
                                  have c83b1 : (t234 != 0) = true := bne_iff_ne.mpr c83
                                  exact absurd ((Option.some.inj H).trans HRT.out) (by decide)
                               ·rw [if_neg c54] at H
                                have c54b0 : (t231 == t232) = false := beq_eq_false_iff_ne.mpr c54
                                have c54b1 : (t231 != t232) = true := bne_iff_ne.mpr c54
                                exact absurd ((Option.some.inj H).trans HRT.out) (by decide)
                              ·rw [if_neg c51] at H
                               have c51b0 : (t229 == t230) = false := beq_eq_false_iff_ne.mpr c51
                               have c51b1 : (t229 != t230) = true := bne_iff_ne.mpr c51
                               exact absurd ((Option.some.inj H).trans HRT.out) (by decide)
                             ·rw [if_neg c48] at H
                              have c48b0 : (t227.toList == t228.toList) = false := beq_eq_false_iff_ne.mpr c48
                              have c48b1 : (t227.toList != t228.toList) = true := bne_iff_ne.mpr c48
                              exact absurd ((Option.some.inj H).trans HRT.out) (by decide)
                            ·rw [if_neg c45] at H
                             have c45b0 : (t226 == 0) = false := beq_eq_false_iff_ne.mpr c45
                             have c45b1 : (t226 != 0) = true := bne_iff_ne.mpr c45
                             exact absurd ((Option.some.inj H).trans HRT.out) (by decide)
                           ·rw [if_neg c43] at H
                            have c43b0 : ((wrap64 ((wrap64 (t210 + t217)) + t224)) == 0) = false := beq_eq_false_iff_ne.mpr c43
                            have c43b1 : ((wrap64 ((wrap64 (t210 + t217)) + t224)) != 0) = true := bne_iff_ne.mpr c43
                            exact absurd ((Option.some.inj H).trans HRT.out) (by decide)
                          ·rw [if_neg c41] at H
                           exact absurd H (by simp)
                         ·rw [if_neg c39] at H
                          exact absurd H (by simp)
                        ·rw [if_neg c38] at H
                         exact absurd H (by simp)
                       ·rw [if_neg c37] at H
                        exact absurd H (by simp)
                      ·rw [if_neg c36] at H
                       exact absurd H (by simp)
                     ·rw [if_neg c35] at H
                      exact absurd H (by simp)
                    ·rw [if_neg c34] at H
                     exact absurd H (by simp)
                   ·rw [if_neg c32] at H
                    exact absurd H (by simp)
                  ·rw [if_neg c31] at H
                   exact absurd H (by simp)
                 ·rw [if_neg c30] at H
                  exact absurd H (by simp)
                ·rw [if_neg c29] at H
                 exact absurd H (by simp)
 ·replace c6 := Bool.eq_false_iff.mpr c6
  subst c6
  have H1 : (some false) = some r := by rw [if_neg (show ¬ (false = true) by decide)] at H; exact H
  clear H
  have H := H1
  clear H1
  exact absurd ((Option.some.inj H).trans HRT.out) (by decide)

/-- THE ONE PURE STATEMENT of rubriclaw5_DecForms: yours. -/
def rubriclaw5_DecForms.Pure : Prop := ∀ (l0 : List Int) (l1 : List Int) (a2 : Int) (a3 : Bool), l0.length ≤ maxLen → l0.length * 1 ≤ 140737488351232 → (∀ x ∈ l0, (Lit.int .u8 x).wf = true) → l1.length ≤ maxLen → l1.length * 1 ≤ 140737488351232 → (∀ x ∈ l1, (Lit.int .u8 x).wf = true) → (Lit.int .i64 a2).wf = true → ∃ k, rubriclaw5_DecForms.f k l0 l1 a2 a3 = some true
theorem rubriclaw5_DecForms.walk (P : rubriclaw5_DecForms.Pure) (a0 : Option Addr) (len0 cap0 : Nat) (z0 : List Int) (a1 : Option Addr) (len1 cap1 : Nat) (z1 : List Int) (a2 : Int) (a3 : Bool) (w : World) (w0 : (a0 = none ∧ len0 = 0 ∧ cap0 = 0 ∧ z0 = []) ∨ ∃ x, a0 = some x ∧ len0 ≤ cap0 ∧ cap0 ≤ maxLen ∧ z0.length = cap0 ∧ (∀ i, i < z0.length → w.cell? (x.add i) = some (.int .u8 (z0.getD i 0))) ∧ ∀ n ∈ z0, (Lit.int .u8 n).wf = true) (y0 : len0 * 1 ≤ 140737488351232) (w1 : (a1 = none ∧ len1 = 0 ∧ cap1 = 0 ∧ z1 = []) ∨ ∃ x, a1 = some x ∧ len1 ≤ cap1 ∧ cap1 ≤ maxLen ∧ z1.length = cap1 ∧ (∀ i, i < z1.length → w.cell? (x.add i) = some (.int .u8 (z1.getD i 0))) ∧ ∀ n ∈ z1, (Lit.int .u8 n).wf = true) (y1 : len1 * 1 ≤ 140737488351232) (w2 : (Lit.int .i64 a2).wf = true) :
  Calls Try.prog 3 #[.slice a0 len0 cap0, .slice a1 len1 cap1, .int .i64 a2, .bool a3] w fun e w' => e = .returned (.bool true) ∧ Below w.heap.size w w' := by
 obtain ⟨l0, rfl, hr0, hm0, hw0, hc0⟩ := ReadsInt.ofRowC w0
 obtain ⟨l1, rfl, hr1, hm1, hw1, hc1⟩ := ReadsInt.ofRowC w1
 obtain ⟨k, h⟩ := P l0 l1 a2 a3 hm0 y0 hw0 hm1 y1 hw1 w2
 refine (rubriclaw5_DecForms.calls k _ _ l0 _ _ l1 a2 a3 true w (Kd.C_of_reads (d := (0 : Int)) (h1 := fun _ => rfl) hr0) hc0 (Kd.C_of_reads (d := (0 : Int)) (h1 := fun _ => rfl) hr1) hc1 h rfl).mono ?_
 rintro e w' ⟨rfl, hd⟩
 exact ⟨rfl, hd⟩

end Go.Proofs.Ytnafjabpkbahdaa.Pr
