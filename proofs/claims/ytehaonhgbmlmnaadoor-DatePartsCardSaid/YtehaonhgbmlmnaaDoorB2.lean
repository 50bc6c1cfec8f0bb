import Derived.Test.YtehaonhgbmlmnaaDoorB1
namespace Go.Proofs.YtehaonhgbmlmnaaDoor.B
open Go.RowKit Go.Proofs.YtehaonhgbmlmnaaDoor Go.Proofs.YtehaonhgbmlmnaaDoor.G Go.Proofs.YtehaonhgbmlmnaaDoor.Pr Go.Proofs.YtehaonhgbmlmnaaDoorW.PrintWords Go.Proofs.YtehaonhgbmlmnaaDoorW.PrintLast
set_option linter.unusedVariables false
set_option linter.unusedSimpArgs false
/-! ### days -/
def dn (L : Int) (m : Nat) (d : Int) : Int := (L - 2000) / 400 * 146097 + Yd ((L - 2000) % 400) + cum ((L - 2000) % 400) m + d - 1
theorem dn_at {c y : Int} (h1 : 0 ≤ y) (h2 : y < 400) (m : Nat) (d : Int) : dn (2000 + 400 * c + y) m d = c * 146097 + Yd y + cum y m + d - 1 := by
  unfold dn
  have e1 : (2000 + 400 * c + y - 2000) / 400 = c := by omega
  have e2 : (2000 + 400 * c + y - 2000) % 400 = y := by omega
  rw [e1, e2]
theorem sdY_pos {l : Int} (h : 1 ≤ l) : sdY l = l := by unfold sdY; rw [if_neg (by omega)]
theorem ofY_pos {l : Int} (h : 0 ≤ l) : ofY l = l := by unfold ofY; rw [if_neg (by omega)]
theorem Yd_bd {y : Int} (h1 : 0 ≤ y) (h2 : y ≤ 400) : 0 ≤ Yd y ∧ Yd y ≤ 146097 := by unfold Yd; omega
theorem Yd_mono {y z : Int} (h : y ≤ z) : Yd y ≤ Yd z := by unfold Yd; omega
theorem days_l0 {y d : Int} {m : Nat} (hy1 : 0 ≤ y) (hy2 : y < 400) (hm : m ≤ 12) (hd1 : -100000000000 ≤ d) (hd2 : d ≤ 100000000000) : ∀ (n i : Nat) (acc : Int), i + n = m → -1000000000000000 ≤ acc → acc ≤ 1000000000000000 - 31 * n → ∀ k, n + 3 ≤ k →
    date_days.l0 k y d acc (m : Int) (i : Int) = some (acc + (cum y m - cum y i) + d - 1) := by
  intro n
  induction n with
  | zero =>
    intro i acc hi a1 a2 k hk
    obtain ⟨k, rfl⟩ : ∃ q, k = q + 1 := ⟨k - 1, by omega⟩
    obtain rfl : i = m := by omega
    simp only [date_days.l0]
    rw [if_neg (by omega), w64 (x := acc + d) (by omega) (by omega), w64 (by omega) (by omega)]
    rw [show acc + (cum y i - cum y i) + d - 1 = acc + d - 1 from by omega]
  | succ n ih =>
    intro i acc hi a1 a2 k hk
    obtain ⟨k, rfl⟩ : ∃ q, k = q + 1 := ⟨k - 1, by omega⟩
    have hr := mlen_range y ((i : Int) + 1)
    have hp := mlen_period 0 y ((i : Int) + 1)
    rw [show (2000 + 400 * 0 + y : Int) = 2000 + y from by omega] at hp
    have hL : date_Length.f k (2000 + y) ((i : Int) + 1) = some (mlen y ((i : Int) + 1)) := by
      have h := Length_k (k := k) (by omega) (y := 2000 + y) (m := (i : Int) + 1) (by omega) (by omega) (by omega) (by omega)
      rw [ofY_pos (by omega), hp] at h
      exact h
    have hS : date_said.f (2000 + y) = some (2000 + y) := by
      have h := said_f (l := 2000 + y) (by omega) (by omega)
      rw [sdY_pos (by omega)] at h
      exact h
    simp only [date_days.l0]
    rw [if_pos (by omega), w64 (x := (i : Int) + 1) (by omega) (by omega), w64 (x := 2000 + y) (by omega) (by omega), hS]
    rw [Option.bind_some, hL, Option.bind_some]
    rw [w64 (x := acc + mlen y ((i : Int) + 1)) (by omega) (by omega)]
    have ih' := ih (i + 1) (acc + mlen y ((i : Int) + 1)) (by omega) (by omega) (by omega) k (by omega)
    rw [show ((i + 1 : Nat) : Int) = (i : Int) + 1 from by omega] at ih'
    rw [ih']
    have e : cum y (i + 1) = cum y i + mlen y ((i : Int) + 1) := rfl
    rw [show acc + mlen y ((i : Int) + 1) + (cum y m - cum y (i + 1)) + d - 1 = acc + (cum y m - cum y i) + d - 1 from by omega]
theorem days_f {y0 mo d : Int} (h1 : -10000000000 ≤ y0) (h2 : y0 ≤ 10000000000) (h3 : -10000000000 ≤ mo) (h4 : mo ≤ 10000000000) (hd1 : -100000000000 ≤ d) (hd2 : d ≤ 100000000000) (k : Nat) (hk : 20 ≤ k) :
    date_days.f k y0 mo d = some (dn (y0 + mo / 12) (mo % 12).toNat d) := by
  unfold date_days.f
  rw [floor_f (by omega) (by omega) (by omega) (by omega)]
  simp only [Option.bind_some]
  rw [w64 (x := y0 + mo / 12) (by omega) (by omega), w64 (x := y0 + mo / 12 - 2000) (by omega) (by omega), floor_f (by omega) (by omega) (by omega) (by omega)]
  simp only [Option.bind_some]
  unfold dn
  have c1 : -100000000 ≤ (y0 + mo / 12 - 2000) / 400 := by omega
  have c2 : (y0 + mo / 12 - 2000) / 400 ≤ 100000000 := by omega
  have y1 : 0 ≤ (y0 + mo / 12 - 2000) % 400 := by omega
  have y2 : (y0 + mo / 12 - 2000) % 400 < 400 := by omega
  generalize (y0 + mo / 12 - 2000) / 400 = c at c1 c2 ⊢
  generalize (y0 + mo / 12 - 2000) % 400 = y at y1 y2 ⊢
  rw [leaps_f y1 (by omega)]
  simp only [Option.bind_some]
  rw [w64 (x := c * 146097) (by omega) (by omega), w64 (x := 365 * y) (by omega) (by omega), w64 (x := c * 146097 + 365 * y) (by omega) (by omega), w64 (by omega) (by omega)]
  obtain ⟨m, hm⟩ : ∃ m : Nat, (mo % 12) = (m : Int) := ⟨(mo % 12).toNat, by omega⟩
  rw [hm, Int.toNat_natCast]
  have := days_l0 (m := m) y1 y2 (by omega) hd1 hd2 m 0 (c * 146097 + 365 * y + ((y + 3) / 4 - (y + 99) / 100 + (y + 399) / 400)) (by omega) (by omega) (by omega) k (by omega)
  rw [show ((0 : Nat) : Int) = 0 from rfl] at this
  rw [this]
  have e0 : cum y 0 = 0 := rfl
  have e1 : Yd y = 365 * y + ((y + 3) / 4 - (y + 99) / 100 + (y + 399) / 400) := rfl
  rw [e0, e1, show c * 146097 + 365 * y + ((y + 3) / 4 - (y + 99) / 100 + (y + 399) / 400) + (cum y m - 0) + d - 1 = c * 146097 + (365 * y + ((y + 3) / 4 - (y + 99) / 100 + (y + 399) / 400)) + cum y m + d - 1 from by omega]
theorem Days_f {Y M D : Int} (h1 : -10000000000 ≤ Y) (h2 : Y ≤ 9000000000) (h3 : -1000000000 ≤ M) (h4 : M ≤ 1000000000) (hd1 : -100000000000 ≤ D) (hd2 : D ≤ 100000000000) (hY : -9000000000 ≤ Y) (k : Nat) (hk : 20 ≤ k) :
    date_Days.f k Y M D = some (dn (ofY Y + (M - 1) / 12) ((M - 1) % 12).toNat D) := by
  unfold date_Days.f
  rw [of_f (by omega) (by omega)]
  simp only [Option.bind_some]
  have ho : Y ≤ ofY Y ∧ ofY Y ≤ Y + 1 := by unfold ofY; split <;> omega
  rw [w64 (x := M - 1) (by omega) (by omega), days_f (by omega) (by omega) (by omega) (by omega) hd1 hd2 k hk]
  rfl
/-! ### a day's date -/
theorem date_l1 {y c d : Int} {m : Nat} (hc1 : -100000000 ≤ c) (hc2 : c ≤ 100000000) (hy1 : 0 ≤ y) (hy2 : y < 400) (hm : m < 12) (hd1 : 1 ≤ d) (hd2 : d ≤ mlen y ((m : Int) + 1)) : ∀ (n j : Nat), j + n = m → ∀ k, n + 4 ≤ k →
    date_date.l1 k (cum y m - cum y j + d - 1) (sdY (2000 + 400 * c + y)) ((j : Int) + 1) = some (sdY (2000 + 400 * c + y), (m : Int) + 1, d) := by
  have hs : -50000000000 ≤ sdY (2000 + 400 * c + y) ∧ sdY (2000 + 400 * c + y) ≤ 50000000000 := by unfold sdY; split <;> omega
  have hl : ∀ (k : Nat) (j : Nat), 2 ≤ k → j < 12 → date_Length.f k (sdY (2000 + 400 * c + y)) ((j : Int) + 1) = some (mlen y ((j : Int) + 1)) := fun k j hk hj => by
    rw [Length_k (by omega) (by omega) (by omega) (by omega) (by omega), ofY_sdY, mlen_period]
  have hcm := cum_bd y m
  have hr31 := mlen_range y ((m : Int) + 1)
  intro n
  induction n with
  | zero =>
    intro j hj k hk
    obtain ⟨k, rfl⟩ : ∃ q, k = q + 1 := ⟨k - 1, by omega⟩
    obtain rfl : j = m := by omega
    simp only [date_date.l1]
    rw [hl k j (by omega) hm]
    simp only [Option.bind_some]
    rw [if_neg (by omega), w64 (by omega) (by omega), show cum y j - cum y j + d - 1 + 1 = d from by omega]
  | succ n ih =>
    intro j hj k hk
    obtain ⟨k, rfl⟩ : ∃ q, k = q + 1 := ⟨k - 1, by omega⟩
    have hcj := cum_bd y j
    have hmono := cum_mono y (by omega : j + 1 ≤ m)
    have e : cum y (j + 1) = cum y j + mlen y ((j : Int) + 1) := rfl
    have hr := mlen_range y ((j : Int) + 1)
    simp only [date_date.l1]
    rw [hl k j (by omega) (by omega)]
    simp only [Option.bind_some]
    rw [if_pos (by omega), w64 (x := cum y m - cum y j + d - 1 - mlen y ((j : Int) + 1)) (by omega) (by omega), w64 (x := (j : Int) + 1 + 1) (by omega) (by omega)]
    have := ih (j + 1) (by omega) k (by omega)
    rw [show cum y m - cum y j + d - 1 - mlen y ((j : Int) + 1) = cum y m - cum y (j + 1) + d - 1 from by omega]
    exact this
theorem date_l0 {y c d : Int} {m : Nat} (hc1 : -100000000 ≤ c) (hc2 : c ≤ 100000000) (hy1 : 0 ≤ y) (hy2 : y < 400) (hm : m < 12) (hd1 : 1 ≤ d) (hd2 : d ≤ mlen y ((m : Int) + 1)) : ∀ (n : Nat) (y' : Int), 0 ≤ y' → y' + n = y → ∀ k, n + 20 ≤ k →
    date_date.l0 k c (Yd y + cum y m + d - 1) y' = some (sdY (2000 + 400 * c + y), (m : Int) + 1, d) := by
  have hcm := cum_bd y m
  have hr31 := mlen_range y ((m : Int) + 1)
  have hYd := Yd_bd hy1 (by omega)
  have hnext : Yd y + cum y m + d - 1 < Yd (y + 1) := by
    have h1 := Yd_succ y
    have h2 := cum_mono y (by omega : m + 1 ≤ 12)
    have e : cum y (m + 1) = cum y m + mlen y ((m : Int) + 1) := rfl
    omega
  intro n
  induction n with
  | zero =>
    intro y' h0 hj k hk
    obtain ⟨k, rfl⟩ : ∃ q, k = q + 1 := ⟨k - 1, by omega⟩
    obtain rfl : y' = y := by omega
    have h := date_l1 hc1 hc2 hy1 hy2 hm hd1 hd2 m 0 (by omega) k (by omega)
    simp only [date_date.l0]
    have e1 : 365 * (y' + 1) + ((y' + 1 + 3) / 4 - (y' + 1 + 99) / 100 + (y' + 1 + 399) / 400) = Yd (y' + 1) := rfl
    have e2 : 365 * y' + ((y' + 3) / 4 - (y' + 99) / 100 + (y' + 399) / 400) = Yd y' := rfl
    have hY1 := Yd_bd (y := y' + 1) (by omega) (by omega)
    rw [w64 (x := y' + 1) (by omega) (by omega), leaps_f (by omega) (by omega)]
    simp only [Option.bind_some]
    rw [w64 (x := 365 * (y' + 1)) (by omega) (by omega), e1, w64 (x := Yd (y' + 1)) (by omega) (by omega), if_neg (by omega), leaps_f (by omega) (by omega)]
    simp only [Option.bind_some]
    rw [w64 (x := 400 * c) (by omega) (by omega), w64 (x := 2000 + 400 * c) (by omega) (by omega), w64 (x := 2000 + 400 * c + y') (by omega) (by omega), said_f (by omega) (by omega)]
    simp only [Option.bind_some]
    rw [w64 (x := 365 * y') (by omega) (by omega), e2, w64 (x := Yd y') (by omega) (by omega), w64 (by omega) (by omega)]
    rw [show Yd y' + cum y' m + d - 1 - Yd y' = cum y' m - cum y' 0 + d - 1 from by simp only [cum]; omega]
    exact h
  | succ n ih =>
    intro y' h0 hj k hk
    obtain ⟨k, rfl⟩ : ∃ q, k = q + 1 := ⟨k - 1, by omega⟩
    have e1 : 365 * (y' + 1) + ((y' + 1 + 3) / 4 - (y' + 1 + 99) / 100 + (y' + 1 + 399) / 400) = Yd (y' + 1) := rfl
    have hY1 := Yd_bd (y := y' + 1) (by omega) (by omega)
    have hm1 := Yd_mono (y := y' + 1) (z := y) (by omega)
    simp only [date_date.l0]
    rw [w64 (x := y' + 1) (by omega) (by omega), leaps_f (by omega) (by omega)]
    simp only [Option.bind_some]
    rw [w64 (x := 365 * (y' + 1)) (by omega) (by omega), e1, w64 (x := Yd (y' + 1)) (by omega) (by omega), if_pos (by omega)]
    exact ih (y' + 1) (by omega) (by omega) k (by omega)
theorem date_f {y c d : Int} {m : Nat} (hc1 : -100000000 ≤ c) (hc2 : c ≤ 100000000) (hy1 : 0 ≤ y) (hy2 : y < 400) (hm : m < 12) (hd1 : 1 ≤ d) (hd2 : d ≤ mlen y ((m : Int) + 1)) (k : Nat) (hk : 500 ≤ k) :
    date_date.f k (c * 146097 + Yd y + cum y m + d - 1) = some (sdY (2000 + 400 * c + y), (m : Int) + 1, d) := by
  have hcm := cum_bd y m
  have hr31 := mlen_range y ((m : Int) + 1)
  have hYd := Yd_bd hy1 (by omega)
  have hYn := Yd_bd (y := y + 1) (by omega) (by omega)
  have hnext : Yd y + cum y m + d - 1 < Yd (y + 1) := by
    have h1 := Yd_succ y
    have h2 := cum_mono y (by omega : m + 1 ≤ 12)
    have e : cum y (m + 1) = cum y m + mlen y ((m : Int) + 1) := rfl
    omega
  unfold date_date.f
  rw [floor_f (by omega) (by omega) (by omega) (by omega)]
  simp only [Option.bind_some]
  rw [show (c * 146097 + Yd y + cum y m + d - 1) / 146097 = c from by omega, show (c * 146097 + Yd y + cum y m + d - 1) % 146097 = Yd y + cum y m + d - 1 from by omega]
  have hr : 0 ≤ Yd y + cum y m + d - 1 := by omega
  rw [Int.tdiv_eq_ediv_of_nonneg hr]
  have hq : (Yd y + cum y m + d - 1) / 366 ≤ y := by
    have : Yd (y + 1) ≤ 366 * (y + 1) := by unfold Yd; omega
    omega
  rw [w64 (by omega) (by omega)]
  exact date_l0 hc1 hc2 hy1 hy2 hm hd1 hd2 (y - (Yd y + cum y m + d - 1) / 366).toNat _ (by omega) (by omega) k (by omega)
/-! ### each day has its date -/
theorem find_year {r : Int} (h0 : 0 ≤ r) : ∀ N : Nat, r < Yd N → ∃ y : Nat, y < N ∧ Yd y ≤ r ∧ r < Yd ((y : Int) + 1)
  | 0, h => by have : Yd 0 = 0 := rfl; simp at h; omega
  | N + 1, h => by
    by_cases hN : r < Yd N
    · obtain ⟨y, a, b, c⟩ := find_year h0 N hN
      exact ⟨y, by omega, b, c⟩
    · exact ⟨N, by omega, by omega, by rw [show ((N + 1 : Nat) : Int) = (N : Int) + 1 from by omega] at h; exact h⟩
theorem find_month {l r : Int} (h0 : 0 ≤ r) : ∀ N : Nat, r < cum l N → ∃ m : Nat, m < N ∧ cum l m ≤ r ∧ r < cum l (m + 1)
  | 0, h => by simp [cum] at h; omega
  | N + 1, h => by
    by_cases hN : r < cum l N
    · obtain ⟨y, a, b, c⟩ := find_month h0 N hN
      exact ⟨y, by omega, b, c⟩
    · exact ⟨N, by omega, by omega, h⟩
theorem day_dec (n : Int) : ∃ (c y : Int) (m : Nat) (d : Int), n = c * 146097 + Yd y + cum y m + d - 1 ∧ 0 ≤ y ∧ y < 400 ∧ m < 12 ∧ 1 ≤ d ∧ d ≤ mlen y ((m : Int) + 1) := by
  have h0 : 0 ≤ n % 146097 := by omega
  have h1 : n % 146097 < Yd (400 : Nat) := by have : Yd (400 : Nat) = 146097 := rfl; omega
  obtain ⟨y, a, b, c⟩ := find_year h0 400 h1
  have hs := Yd_succ y
  obtain ⟨m, a', b', c'⟩ := find_month (l := y) (r := n % 146097 - Yd y) (by omega) 12 (by omega)
  have e : cum y (m + 1) = cum y m + mlen y ((m : Int) + 1) := rfl
  exact ⟨n / 146097, y, m, n % 146097 - Yd y - cum y m + 1, by omega, by omega, by omega, a', by omega, by omega⟩

end Go.Proofs.YtehaonhgbmlmnaaDoor.B
