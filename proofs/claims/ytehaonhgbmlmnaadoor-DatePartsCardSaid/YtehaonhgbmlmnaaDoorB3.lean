import Derived.Test.YtehaonhgbmlmnaaDoorB2
import Derived.Test.YtehaonhgbmlmnaaDoorPrx5
namespace Go.Proofs.YtehaonhgbmlmnaaDoor.B
open Go.RowKit Go.Proofs.YtehaonhgbmlmnaaDoor Go.Proofs.YtehaonhgbmlmnaaDoor.G Go.Proofs.YtehaonhgbmlmnaaDoor.Pr Go.Proofs.YtehaonhgbmlmnaaDoorW.PrintWords Go.Proofs.YtehaonhgbmlmnaaDoorW.PrintLast
set_option linter.unusedVariables false
set_option linter.unusedSimpArgs false
/-! ### valid dates -/
structure Vd (c y : Int) (m : Nat) (d : Int) : Prop where
  y0 : 0 ≤ y
  y1 : y < 400
  m1 : m < 12
  d0 : 1 ≤ d
  d1 : d ≤ mlen y ((m : Int) + 1)
  c0 : -10000000 ≤ c
  c1 : c ≤ 10000000
def num (c y : Int) (m : Nat) (d : Int) : Int := c * 146097 + Yd y + cum y m + d - 1
def Yr (c y : Int) : Int := sdY (2000 + 400 * c + y)
theorem Vd.rest {c y : Int} {m : Nat} {d : Int} (h : Vd c y m d) : 0 ≤ Yd y + cum y m + d - 1 ∧ Yd y + cum y m + d - 1 < 146097 := by
  have hYd := Yd_bd h.y0 (by have := h.y1; omega)
  have hYn := Yd_bd (y := y + 1) (by have := h.y0; omega) (by have := h.y1; omega)
  have h1 := Yd_succ y
  have h2 := cum_mono y (by have := h.m1; omega : m + 1 ≤ 12)
  have e : cum y (m + 1) = cum y m + mlen y ((m : Int) + 1) := rfl
  have hc := cum_bd y m
  have := h.d0; have := h.d1
  omega
theorem Vd.date {c y : Int} {m : Nat} {d : Int} (h : Vd c y m d) (k : Nat) (hk : 500 ≤ k) : date_date.f k (num c y m d) = some (Yr c y, (m : Int) + 1, d) :=
  date_f (by have := h.c0; omega) (by have := h.c1; omega) h.y0 h.y1 h.m1 h.d0 h.d1 k hk
theorem Vd.uniq {c y c' y' d d' : Int} {m m' : Nat} (h : Vd c y m d) (h' : Vd c' y' m' d') (e : num c' y' m' d' = num c y m d) : Yr c' y' = Yr c y ∧ m' = m ∧ d' = d := by
  have h1 := h.date 500 (Nat.le_refl _)
  have h2 := h'.date 500 (Nat.le_refl _)
  rw [e, h1] at h2
  simp only [Option.some.injEq, Prod.mk.injEq] at h2
  exact ⟨h2.1.symm, by omega, h2.2.2.symm⟩
theorem Yr_bd {c y : Int} {m : Nat} {d : Int} (h : Vd c y m d) : -5000000000 ≤ Yr c y ∧ Yr c y ≤ 5000000000 := by
  have := h.c0; have := h.c1; have := h.y0; have := h.y1
  unfold Yr sdY; split <;> omega
theorem Yr_mlen {c y : Int} (m : Int) : mlen (ofY (Yr c y)) m = mlen y m := by unfold Yr; rw [ofY_sdY, mlen_period]
theorem Vd.days' {c y : Int} {m : Nat} {d : Int} (h : Vd c y m d) (k : Nat) (hk : 20 ≤ k) : date_Days.f k (Yr c y) ((m : Int) + 1) d = some (num c y m d) := by
  have hb := Yr_bd h
  have hm := h.m1
  have hd0 := h.d0; have hd1 := h.d1; have hr := mlen_range y ((m : Int) + 1)
  rw [Days_f (by omega) (by omega) (by omega) (by omega) (by omega) (by omega) (by omega) k hk]
  rw [show ofY (Yr c y) = 2000 + 400 * c + y from by unfold Yr; rw [ofY_sdY]]
  rw [show ((m : Int) + 1 - 1) / 12 = 0 from by omega, show (((m : Int) + 1 - 1) % 12).toNat = m from by omega, Int.add_zero, dn_at h.y0 h.y1]
  rfl
theorem Vd.days {c y : Int} {m : Nat} {d : Int} (h : Vd c y m d) (hc : -1000000 ≤ c ∧ c ≤ 1000000) (k : Nat) (hk : 20 ≤ k) : date_Days.f k (Yr c y) ((m : Int) + 1) d = some (num c y m d) := h.days' k hk
/-- Each day has its date. -/
theorem vd_of (n : Int) (h1 : -100000000000 ≤ n) (h2 : n ≤ 100000000000) : ∃ c y m d, Vd c y m d ∧ num c y m d = n ∧ -1000000 ≤ c ∧ c ≤ 1000000 := by
  obtain ⟨c, y, m, d, e, y0, y1, m1, d0, d1⟩ := day_dec n
  have hYd := Yd_bd y0 (by omega)
  have hc := cum_bd y m
  have hr := mlen_range y ((m : Int) + 1)
  exact ⟨c, y, m, d, ⟨y0, y1, m1, d0, d1, by omega, by omega⟩, e.symm, by omega, by omega⟩
theorem of_year {Y M D : Int} (h1 : -1000000 ≤ Y) (h2 : Y ≤ 1000000) (h0 : Y ≠ 0) (m1 : 1 ≤ M) (m2 : M ≤ 12) (d1 : 1 ≤ D) (d2 : D ≤ 28) :
    ∃ c y m, Vd c y m D ∧ Yr c y = Y ∧ (m : Int) + 1 = M ∧ -10000 ≤ c ∧ c ≤ 10000 := by
  have ho : Y ≤ ofY Y ∧ ofY Y ≤ Y + 1 := by unfold ofY; split <;> omega
  refine ⟨(ofY Y - 2000) / 400, (ofY Y - 2000) % 400, (M - 1).toNat, ⟨by omega, by omega, by omega, d1, ?_, by omega, by omega⟩, ?_, by omega, by omega, by omega⟩
  · have := mlen_range ((ofY Y - 2000) % 400) (((M - 1).toNat : Int) + 1)
    omega
  · unfold Yr
    rw [show 2000 + 400 * ((ofY Y - 2000) / 400) + (ofY Y - 2000) % 400 = ofY Y from by omega, sdY_ofY h0]
/-! ### Add -/
theorem Add_sec' {K S N z sec nano : Int} {hz : Bool} {c y d c' y' d' : Int} {m m' : Nat} (h : Vd c y m d) (h' : Vd c' y' m' d')
    (s1 : 0 ≤ S) (s2 : S < 86400) (n1 : 0 ≤ N) (q1 : -10000000000000000 ≤ sec) (q2 : sec ≤ 10000000000000000) (o1 : 0 ≤ nano) (o2 : N + nano < 1000000000)
    (e : num c' y' m' d' = num c y m d + (S + sec) / 86400) (k : Nat) (hk : 500 ≤ k) :
    date_Add.f k K (Yr c y) ((m : Int) + 1) d S N hz z 0 sec nano = some (K, Yr c' y', (m' : Int) + 1, d', (S + sec) % 86400, N + nano, hz, z) := by
  have hb := Yr_bd h
  have hm := h.m1
  have hy0 := h.y0; have hy1 := h.y1; have hc0 := h.c0; have hc1 := h.c1
  have hd1 := h.d1; have hr := mlen_range y ((m : Int) + 1)
  have hL : date_Length.f k (Yr c y) ((m : Int) + 1) = some (mlen y ((m : Int) + 1)) := by
    rw [Length_k (by omega) (by omega) (by omega) (by omega) (by omega), Yr_mlen]
  have ho : ofY (Yr c y) = 2000 + 400 * c + y := by unfold Yr; rw [ofY_sdY]
  unfold date_Add.f
  rw [of_f (by omega) (by omega), ho, Option.bind_some]
  rw [w64 (x := 12 * (2000 + 400 * c + y)) (by omega) (by omega), w64 (x := 12 * (2000 + 400 * c + y) + ((m : Int) + 1)) (by omega) (by omega), w64 (x := 12 * (2000 + 400 * c + y) + ((m : Int) + 1) - 1) (by omega) (by omega), w64 (x := 12 * (2000 + 400 * c + y) + ((m : Int) + 1) - 1 + 0) (by omega) (by omega), floor_f (by omega) (by omega) (by omega) (by omega)]
  rw [show (12 * (2000 + 400 * c + y) + ((m : Int) + 1) - 1 + 0) / 12 = 2000 + 400 * c + y from by omega, show (12 * (2000 + 400 * c + y) + ((m : Int) + 1) - 1 + 0) % 12 = (m : Int) from by omega]
  rw [Option.bind_some, said_f (by omega) (by omega), Option.bind_some, w64 (x := (m : Int) + 1) (by omega) (by omega)]
  rw [show sdY (2000 + 400 * c + y, (m : Int)).1 = Yr c y from rfl, hL, Option.bind_some]
  rw [w64 (x := N + nano) (by omega) (by omega), floor_f (by omega) (by omega) (by omega) (by omega), show (N + nano) / 1000000000 = 0 from by omega, show (N + nano) % 1000000000 = N + nano from by omega, Option.bind_some]
  rw [w64 (x := S + sec) (by omega) (by omega), w64 (x := S + sec + 0) (by omega) (by omega), Int.add_zero, floor_f (by omega) (by omega) (by omega) (by omega), Option.bind_some]
  have hmn : mn d (mlen y ((m : Int) + 1)) = d := by unfold mn; omega
  rw [hmn]
  by_cases h0 : (S + sec) / 86400 = 0
  · rw [if_pos h0]
    rw [h0, Int.add_zero] at e
    obtain ⟨e1, e2, e3⟩ := h.uniq h' e
    rw [e1, e2, e3]
  · rw [if_neg h0, h.days' k (by omega), Option.bind_some]
    have hrs := h.rest
    have hnum : num c y m d = c * 146097 + (Yd y + cum y m + d - 1) := by unfold num; omega
    rw [w64 (x := num c y m d + (S + sec) / 86400) (by omega) (by omega), ← e, h'.date k hk, Option.bind_some]
theorem Add_sec {K S N z sec nano : Int} {hz : Bool} {c y d c' y' d' : Int} {m m' : Nat} (h : Vd c y m d) (hc : -1000000 ≤ c ∧ c ≤ 1000000) (h' : Vd c' y' m' d')
    (s1 : 0 ≤ S) (s2 : S < 86400) (n1 : 0 ≤ N) (q1 : -10000000000000000 ≤ sec) (q2 : sec ≤ 10000000000000000) (o1 : 0 ≤ nano) (o2 : N + nano < 1000000000)
    (e : num c' y' m' d' = num c y m d + (S + sec) / 86400) (k : Nat) (hk : 500 ≤ k) :
    date_Add.f k K (Yr c y) ((m : Int) + 1) d S N hz z 0 sec nano = some (K, Yr c' y', (m' : Int) + 1, d', (S + sec) % 86400, N + nano, hz, z) := Add_sec' h h' s1 s2 n1 q1 q2 o1 o2 e k hk
theorem Add_mo {K S N z mo : Int} {hz : Bool} {c y d c' y' : Int} {m m' : Nat} (h : Vd c y m d) (h' : Vd c' y' m' d) (d28 : d ≤ 28)
    (s1 : 0 ≤ S) (s2 : S < 86400) (n1 : 0 ≤ N) (n2 : N < 1000000000) (q1 : -1000000000 ≤ mo) (q2 : mo ≤ 1000000000)
    (e : 12 * (2000 + 400 * c' + y') + (m' : Int) = 12 * (2000 + 400 * c + y) + (m : Int) + mo) (k : Nat) (hk : 500 ≤ k) :
    date_Add.f k K (Yr c y) ((m : Int) + 1) d S N hz z mo 0 0 = some (K, Yr c' y', (m' : Int) + 1, d, S, N, hz, z) := by
  have hb := Yr_bd h'
  have hb0 := Yr_bd h
  have hm := h.m1; have hm' := h'.m1
  have hy0 := h.y0; have hy1 := h.y1; have hc0 := h.c0; have hc1 := h.c1
  have hy0' := h'.y0; have hy1' := h'.y1; have hc0' := h'.c0; have hc1' := h'.c1
  have hr := mlen_range y' ((m' : Int) + 1)
  have hL : date_Length.f k (Yr c' y') ((m' : Int) + 1) = some (mlen y' ((m' : Int) + 1)) := by
    rw [Length_k (by omega) (by omega) (by omega) (by omega) (by omega), Yr_mlen]
  have ho : ofY (Yr c y) = 2000 + 400 * c + y := by unfold Yr; rw [ofY_sdY]
  unfold date_Add.f
  rw [of_f (by omega) (by omega), ho, Option.bind_some]
  rw [w64 (x := 12 * (2000 + 400 * c + y)) (by omega) (by omega), w64 (x := 12 * (2000 + 400 * c + y) + ((m : Int) + 1)) (by omega) (by omega), w64 (x := 12 * (2000 + 400 * c + y) + ((m : Int) + 1) - 1) (by omega) (by omega), w64 (x := 12 * (2000 + 400 * c + y) + ((m : Int) + 1) - 1 + mo) (by omega) (by omega), floor_f (by omega) (by omega) (by omega) (by omega)]
  rw [show (12 * (2000 + 400 * c + y) + ((m : Int) + 1) - 1 + mo) / 12 = 2000 + 400 * c' + y' from by omega, show (12 * (2000 + 400 * c + y) + ((m : Int) + 1) - 1 + mo) % 12 = (m' : Int) from by omega]
  rw [Option.bind_some, said_f (by omega) (by omega), Option.bind_some, w64 (x := (m' : Int) + 1) (by omega) (by omega)]
  rw [show sdY (2000 + 400 * c' + y', (m' : Int)).1 = Yr c' y' from rfl, hL, Option.bind_some]
  rw [Int.add_zero, w64 (x := N) (by omega) (by omega), floor_f (by omega) (by omega) (by omega) (by omega), show N / 1000000000 = 0 from by omega, show N % 1000000000 = N from by omega, Option.bind_some]
  rw [w64 (x := S + 0) (by omega) (by omega), show (S + 0 + 0 : Int) = S from by omega, w64 (x := S) (by omega) (by omega), floor_f (by omega) (by omega) (by omega) (by omega), Option.bind_some]
  have hmn : mn d (mlen y' ((m' : Int) + 1)) = d := by unfold mn; omega
  rw [hmn, if_pos (by omega), show S % 86400 = S from by omega]

theorem vd_of' (n : Int) (h1 : -1000000000000 ≤ n) (h2 : n ≤ 1000000000000) : ∃ c y m d, Vd c y m d ∧ num c y m d = n := by
  obtain ⟨c, y, m, d, e, y0, y1, m1, d0, d1⟩ := day_dec n
  have hYd := Yd_bd y0 (by omega)
  have hc := cum_bd y m
  have hr := mlen_range y ((m : Int) + 1)
  exact ⟨c, y, m, d, ⟨y0, y1, m1, d0, d1, by omega, by omega⟩, e.symm⟩
theorem of_year' {Y M D : Int} (h1 : -1000000000 ≤ Y) (h2 : Y ≤ 1000000000) (h0 : Y ≠ 0) (m1 : 1 ≤ M) (m2 : M ≤ 12) (d1 : 1 ≤ D) (d2 : D ≤ mlen (ofY Y) M) :
    ∃ c y m, Vd c y m D ∧ Yr c y = Y ∧ (m : Int) + 1 = M ∧ -2600000 ≤ c ∧ c ≤ 2600000 := by
  have ho : Y ≤ ofY Y ∧ ofY Y ≤ Y + 1 := by unfold ofY; split <;> omega
  have hm : (((M - 1).toNat : Nat) : Int) + 1 = M := by omega
  have e : 2000 + 400 * ((ofY Y - 2000) / 400) + (ofY Y - 2000) % 400 = ofY Y := by omega
  refine ⟨(ofY Y - 2000) / 400, (ofY Y - 2000) % 400, (M - 1).toNat, ⟨by omega, by omega, by omega, d1, ?_, by omega, by omega⟩, ?_, by omega, by omega, by omega⟩
  · rw [hm, ← mlen_period ((ofY Y - 2000) / 400), e]; exact d2
  · unfold Yr
    rw [e, sdY_ofY h0]

end Go.Proofs.YtehaonhgbmlmnaaDoor.B
