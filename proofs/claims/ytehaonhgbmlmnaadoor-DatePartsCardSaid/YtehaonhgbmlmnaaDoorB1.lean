import Derived.Test.YtehaonhgbmlmnaaDoorG1
import Derived.Test.YtehaonhgbmlmnaaDoorPrx3
import Derived.Test.YtehaonhgbmlmnaaDoorPrx4
import Derived.Test.YtehaonhgbmlmnaaDoorPrx10
namespace Go.Proofs.YtehaonhgbmlmnaaDoor.B
open Go.RowKit Go.Proofs.YtehaonhgbmlmnaaDoor Go.Proofs.YtehaonhgbmlmnaaDoor.G Go.Proofs.YtehaonhgbmlmnaaDoor.Pr Go.Proofs.YtehaonhgbmlmnaaDoorW.PrintWords Go.Proofs.YtehaonhgbmlmnaaDoorW.PrintLast
set_option linter.unusedVariables false
set_option linter.unusedSimpArgs false
/-! ### numbers -/
theorem w64 {x : Int} (h1 : -9223372036854775808 ≤ x) (h2 : x ≤ 9223372036854775807) : wrap64 x = x := by unfold wrap64; omega
theorem tmod_zero (a b : Int) : a.tmod b = 0 ↔ a % b = 0 := by rw [← Int.dvd_iff_tmod_eq_zero, Int.dvd_iff_emod_eq_zero]
/-! ### the calendar -/
def lp (l : Int) : Bool := decide (l % 4 = 0 ∧ (l % 100 ≠ 0 ∨ l % 400 = 0))
def ofY (y : Int) : Int := if y < 0 then y + 1 else y
def sdY (l : Int) : Int := if l < 1 then l - 1 else l
def mlen (l m : Int) : Int := if m = 2 then (if lp l = true then 29 else 28) else if m = 4 ∨ m = 6 ∨ m = 9 ∨ m = 11 then 30 else 31
theorem ofY_sdY (l : Int) : ofY (sdY l) = l := by unfold ofY sdY; split <;> split <;> omega
theorem sdY_ofY {y : Int} (h : y ≠ 0) : sdY (ofY y) = y := by unfold ofY sdY; split <;> split <;> omega
theorem lp_period (c y : Int) : lp (2000 + 400 * c + y) = lp y := by
  unfold lp
  have h1 : (2000 + 400 * c + y) % 4 = y % 4 := by omega
  have h2 : (2000 + 400 * c + y) % 100 = y % 100 := by omega
  have h3 : (2000 + 400 * c + y) % 400 = y % 400 := by omega
  rw [h1, h2, h3]
theorem mlen_period (c y m : Int) : mlen (2000 + 400 * c + y) m = mlen y m := by unfold mlen; rw [lp_period]
theorem mlen_range (l m : Int) : 28 ≤ mlen l m ∧ mlen l m ≤ 31 := by unfold mlen; (repeat' split) <;> omega
theorem leap_f (l : Int) : date_leap.f l = some (lp l) := by
  unfold date_leap.f lp
  by_cases h4 : l % 4 = 0
  · rw [if_pos ((tmod_zero l 4).mpr h4)]
    by_cases h1 : l % 100 = 0
    · rw [if_pos ((tmod_zero l 100).mpr h1)]
      congr 1
      by_cases h3 : l % 400 = 0
      · have := (tmod_zero l 400).mpr h3
        simp [h4, h1, h3, this]
      · have : ¬ l.tmod 400 = 0 := fun e => h3 ((tmod_zero l 400).mp e)
        simp [h4, h1, h3, this]
    · rw [if_neg (fun e => h1 ((tmod_zero l 100).mp e))]
      simp [h4, h1]
  · rw [if_neg (fun e => h4 ((tmod_zero l 4).mp e))]
    simp [h4]
theorem of_f {y : Int} (h : -9223372036854775808 ≤ y) (h2 : y ≤ 9223372036854775807) : date_of.f y = some (ofY y) := by
  unfold date_of.f ofY
  split
  · rw [w64 (by omega) (by omega)]
  · rfl
theorem said_f {l : Int} (h : -9223372036854775807 ≤ l) (h2 : l ≤ 9223372036854775807) : date_said.f l = some (sdY l) := by
  unfold date_said.f sdY
  split
  · rw [w64 (by omega) (by omega)]
  · rfl
theorem Leap_f {y : Int} (h : -9223372036854775808 ≤ y) (h2 : y ≤ 9223372036854775807) : date_Leap.f y = some (lp (ofY y)) := by
  unfold date_Leap.f
  rw [of_f h h2]
  simp only [Option.bind_some, leap_f]
theorem Length_f (k : Nat) {y m : Int} (h : -9223372036854775808 ≤ y) (h2 : y ≤ 9223372036854775807) (m1 : 1 ≤ m) (m2 : m ≤ 12) : date_Length.f (k + 2) y m = some (mlen (ofY y) m) := by
  have hm : m = 1 ∨ m = 2 ∨ m = 3 ∨ m = 4 ∨ m = 5 ∨ m = 6 ∨ m = 7 ∨ m = 8 ∨ m = 9 ∨ m = 10 ∨ m = 11 ∨ m = 12 := by omega
  have hL := Leap_f h h2
  rcases hm with rfl | rfl | rfl | rfl | rfl | rfl | rfl | rfl | rfl | rfl | rfl | rfl
  all_goals simp [date_Length.f, date_Length.j0, date_Length.j1, mlen, hL]
  split <;> rfl
theorem Length_k {k : Nat} (hk : 2 ≤ k) {y m : Int} (h : -9223372036854775808 ≤ y) (h2 : y ≤ 9223372036854775807) (m1 : 1 ≤ m) (m2 : m ≤ 12) : date_Length.f k y m = some (mlen (ofY y) m) := by
  obtain ⟨q, rfl⟩ : ∃ q, k = q + 2 := ⟨k - 2, by omega⟩
  exact Length_f q h h2 m1 m2
theorem ediv_bd {a b : Int} (hb : 0 < b) (h1 : -4611686018427387904 ≤ a) (h2 : a ≤ 4611686018427387904) : -4611686018427387904 ≤ a / b ∧ a / b ≤ 4611686018427387904 := by
  by_cases h : 0 ≤ a
  · have e1 := Int.ediv_nonneg h (Int.le_of_lt hb)
    have e2 := Int.ediv_le_self b h
    omega
  · have e1 := Int.ediv_neg_of_neg_of_pos (by omega : a < 0) hb
    have e2 : a ≤ a / b := by
      rw [Int.le_ediv_iff_mul_le hb]
      have := Int.mul_le_mul_of_nonpos_left (by omega : a ≤ 0) (by omega : (1 : Int) ≤ b)
      omega
    omega
theorem floor_f {a b : Int} (hb : 0 < b) (hb2 : b ≤ 1000000000) (h1 : -4611686018427387904 ≤ a) (h2 : a ≤ 4611686018427387904) : date_floor.f a b = some (a / b, a % b) := by
  unfold date_floor.f
  rw [if_neg (by omega)]
  have hq := Int.tdiv_eq_ediv (a := a) (b := b)
  have hr := Int.tmod_eq_emod (a := a) (b := b)
  have r1 := Int.emod_nonneg a (by omega : b ≠ 0)
  have r2 := Int.emod_lt_of_pos a hb
  obtain ⟨q1, q2⟩ := ediv_bd hb h1 h2
  have hs : b.sign = 1 := Int.sign_eq_one_of_pos hb
  have hn : (b.natAbs : Int) = b := Int.natAbs_of_nonneg (Int.le_of_lt hb)
  rw [hq, hr, hs]
  by_cases hc : 0 ≤ a ∨ b ∣ a
  · rw [if_pos hc, if_pos hc, if_neg (by simp; omega), w64 (by omega) (by omega)]
    simp
  · rw [if_neg hc, if_neg hc, if_pos (by omega), w64 (x := a / b + 1) (by omega) (by omega), w64 (x := a / b + 1 - 1) (by omega) (by omega), w64 (x := a % b - ↑b.natAbs + b) (by omega) (by omega)]
    congr 2 <;> omega
theorem rmod_f {a b : Int} (hb : 0 < b) (hb2 : b ≤ 1000000000) : rubricref6_mod.f a b = some (a % b) := by
  unfold rubricref6_mod.f
  rw [if_neg (by omega)]
  have hr := Int.tmod_eq_emod (a := a) (b := b)
  have r1 := Int.emod_nonneg a (by omega : b ≠ 0)
  have r2 := Int.emod_lt_of_pos a hb
  have hn : (b.natAbs : Int) = b := Int.natAbs_of_nonneg (Int.le_of_lt hb)
  rw [hr]
  by_cases hc : 0 ≤ a ∨ b ∣ a
  · rw [if_pos hc, if_neg (by simp; omega)]
    simp
  · rw [if_neg hc, if_pos (by omega), w64 (by omega) (by omega)]
    congr 1
    omega
theorem rdiv_f {a b : Int} (hb : 0 < b) (hb2 : b ≤ 1000000000) (h1 : -4611686018427387904 ≤ a) (h2 : a ≤ 4611686018427387904) : rubricref6_div.f a b = some (a / b) := by
  unfold rubricref6_div.f
  rw [rmod_f hb hb2]
  simp only [Option.bind_some]
  rw [if_neg (by omega)]
  have r1 := Int.emod_nonneg a (by omega : b ≠ 0)
  have r2 := Int.emod_lt_of_pos a hb
  obtain ⟨q1, q2⟩ := ediv_bd hb h1 h2
  have hqr := Int.mul_ediv_add_emod a b
  rw [w64 (x := a - a % b) (by omega) (by omega)]
  have e : a - a % b = b * (a / b) := by omega
  rw [e, Int.mul_tdiv_cancel_left _ (by omega), w64 (by omega) (by omega)]
/-- Days of the years from 0 on, ahead of one within a cycle. -/
def Yd (y : Int) : Int := 365 * y + ((y + 3) / 4 - (y + 99) / 100 + (y + 399) / 400)
def cum (l : Int) : Nat → Int
  | 0 => 0
  | j + 1 => cum l j + mlen l ((j : Int) + 1)
theorem cum_bd (l : Int) : ∀ j, 0 ≤ cum l j ∧ cum l j ≤ 31 * (j : Int)
  | 0 => by simp [cum]
  | j + 1 => by
    have h1 := cum_bd l j
    have h2 := mlen_range l ((j : Int) + 1)
    simp only [cum]
    omega
theorem cum_mono (l : Int) {i j : Nat} (h : i ≤ j) : cum l i ≤ cum l j := by
  induction j with
  | zero => simp at h; subst h; exact Int.le_refl _
  | succ j ih =>
    by_cases e : i = j + 1
    · subst e; exact Int.le_refl _
    · have h1 := ih (by omega)
      have h2 := mlen_range l ((j : Int) + 1)
      simp only [cum]
      omega
theorem cum_year (l : Int) : cum l 12 = 365 + if lp l = true then 1 else 0 := by
  simp [cum, mlen]
  split <;> omega
theorem Yd_succ (y : Int) : Yd (y + 1) = Yd y + cum y 12 := by
  rw [cum_year]
  unfold Yd lp
  by_cases h4 : y % 4 = 0 <;> by_cases h1 : y % 100 = 0 <;> by_cases h3 : y % 400 = 0
  all_goals simp [h4, h1, h3]
  all_goals omega
theorem leaps_f {y : Int} (h1 : 0 ≤ y) (h2 : y ≤ 1000) : date_leaps.f y = some ((y + 3) / 4 - (y + 99) / 100 + (y + 399) / 400) := by
  unfold date_leaps.f
  rw [w64 (x := y + 3) (by omega) (by omega), w64 (x := y + 99) (by omega) (by omega), w64 (x := y + 399) (by omega) (by omega), Int.tdiv_eq_ediv_of_nonneg (by omega), Int.tdiv_eq_ediv_of_nonneg (by omega), Int.tdiv_eq_ediv_of_nonneg (by omega)]
  rw [w64 (x := (y + 3) / 4) (by omega) (by omega), w64 (x := (y + 99) / 100) (by omega) (by omega), w64 (x := (y + 399) / 400) (by omega) (by omega), w64 (x := (y + 3) / 4 - (y + 99) / 100) (by omega) (by omega), w64 (by omega) (by omega)]

end Go.Proofs.YtehaonhgbmlmnaaDoor.B
