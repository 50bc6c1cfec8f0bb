import Derived.Test.YtehaonhgbmlmnaaDoorB5
namespace Go.Proofs.YtehaonhgbmlmnaaDoor.B
open Go.RowKit Go.Proofs.YtehaonhgbmlmnaaDoor Go.Proofs.YtehaonhgbmlmnaaDoor.G Go.Proofs.YtehaonhgbmlmnaaDoor.Pr Go.Proofs.YtehaonhgbmlmnaaDoorW.PrintWords Go.Proofs.YtehaonhgbmlmnaaDoorW.PrintLast
set_option linter.unusedVariables false
set_option linter.unusedSimpArgs false
/-! ### numerals -/
theorem decFrom_dig : ∀ (l : List UInt8) (acc : Nat), (∀ b ∈ l, isD b = true) → ∃ n, Lib.decFrom acc l = some n
  | [], acc, _ => ⟨acc, rfl⟩
  | b :: l, acc, h => by
    have hb := (isD_bt b).mp (h b (by simp))
    unfold Lib.decFrom Lib.digitVal
    rw [if_pos (by omega)]
    exact decFrom_dig l _ (fun x hx => h x (by simp [hx]))
theorem atoi_dig (l : List UInt8) (h : ∀ b ∈ l, isD b = true) (h1 : 1 ≤ l.length) (h2 : l.length ≤ 18) : ∃ n : Nat, strconv_Atoi.f (mkB l) = some ((n : Int), none) ∧ n < 10 ^ l.length ∧ Lib.decFrom 0 l = some n := by
  obtain ⟨n, hn⟩ := decFrom_dig l 0 h
  have hlt := Lib.decFrom_lt l 0 n hn
  refine ⟨n, ?_, by simpa using hlt, hn⟩
  unfold strconv_Atoi.f
  rw [if_pos (by rw [size_mkB]; exact h2), show (mkB l).data.toList = l from lst_mkB l]
  cases l with
  | nil => simp at h1
  | cons b r =>
    have hb := (isD_bt b).mp (h b (by simp))
    have e1 : (b == 45) = false := by simp only [beq_eq_false_iff_ne]; rintro rfl; revert hb; decide
    have e2 : (b == 43) = false := by simp only [beq_eq_false_iff_ne]; rintro rfl; revert hb; decide
    unfold Lib.atoi Lib.decNat
    simp only [e1, e2, hn, Bool.false_eq_true, if_false, List.isEmpty_cons, Option.map_some]
theorem takeD (l : List UInt8) (n : Nat) (hn : n ≤ lead l) : ∀ b ∈ l.take n, isD b = true := by
  intro b hb
  have : l.take n = (l.takeWhile isD).take n := by
    have hp := List.takeWhile_prefix (p := isD) (l := l)
    obtain ⟨t, ht⟩ := hp
    have h2 := congrArg (List.take n) ht
    rw [List.take_append_of_le_length hn] at h2
    exact h2.symm
  rw [this] at hb
  have hb2 := List.mem_of_mem_take hb
  have hall := List.all_takeWhile (p := isD) (l := l)
  rw [List.all_eq_true] at hall
  exact hall b hb2
/-! ### the reader's functions always answer -/
theorem digits_ok (l : List UInt8) (b : Bool) (lo hi : Nat) (h0 : 1 ≤ lo) (h1 : lo ≤ hi) (h2 : hi ≤ 9) (hs : l.length ≤ 1000) (k : Nat) (hk : 20 ≤ k) : ∃ a l' b', date_reader_digits.f k (mkB l) b (lo : Int) (hi : Int) = some (mkB a, mkB l', b') ∧
    (∀ x ∈ a, isD x = true) ∧ 1 ≤ a.length ∧ a.length ≤ hi ∧ l'.length ≤ l.length ∧ (b = true → b' = true) := by
  rw [digits_f l b lo hi (by omega) (by omega) (by omega) k (by omega)]
  unfold dres
  by_cases h : nd l hi < lo ∨ hi < nd l hi
  · rw [if_pos h]
    exact ⟨[48], l, true, rfl, by decide, by simp, by simp; omega, Nat.le_refl _, fun _ => rfl⟩
  · rw [if_neg h]
    have hle := nd_le l hi
    have hn : nd l hi ≤ lead l := by unfold nd; omega
    exact ⟨_, _, b, rfl, takeD l _ hn, by simp; omega, by simp; omega, by simp, fun h => h⟩
theorem number_ok (l : List UInt8) (b : Bool) (lo hi : Int) (hs : l.length ≤ 1000) (k : Nat) (hk : 20 ≤ k) : ∃ n l' b', date_reader_number.f k (mkB l) b lo hi = some (n, mkB l', b') ∧ 0 ≤ n ∧ n ≤ 99 ∧ (b' = false → lo ≤ n ∧ n ≤ hi) ∧ l'.length ≤ l.length ∧ (b = true → b' = true) := by
  obtain ⟨a, l', b', e, d1, d2, d3, d4, d5⟩ := digits_ok l b 2 2 (by omega) (by omega) (by omega) hs k hk
  obtain ⟨n, en, hn, _⟩ := atoi_dig a d1 d2 (by omega)
  have hn2 : n < 100 := Nat.lt_of_lt_of_le hn (Nat.pow_le_pow_right (by decide) d3)
  unfold date_reader_number.f
  rw [show (2 : Int) = ((2 : Nat) : Int) from rfl, e, Option.bind_some, en, Option.bind_some]
  cases b' with
  | true => exact ⟨n, l', true, by simp, by omega, by omega, by simp, d4, fun _ => rfl⟩
  | false =>
    by_cases h1 : (n : Int) < lo
    · exact ⟨n, l', true, by simp [h1], by omega, by omega, by simp, d4, fun _ => rfl⟩
    · by_cases h2 : (n : Int) > hi
      · exact ⟨n, l', true, by simp [h1, h2], by omega, by omega, by simp, d4, fun _ => rfl⟩
      · exact ⟨n, l', false, by simp [h1, h2], by omega, by omega, fun _ => by omega, d4, fun h => by simpa using d5 h⟩
theorem takes_ok (l : List UInt8) (b : Bool) (q : Int) : ∃ t l', date_reader_takes.f (mkB l) b q = some (t, mkB l', b) ∧ l'.length ≤ l.length := by
  cases l with
  | nil => exact ⟨false, [], takes_nil b q, Nat.le_refl _⟩
  | cons c r =>
    rw [takes_cons]
    by_cases h : (c.toNat : Int) = q
    · rw [if_pos h]; exact ⟨true, r, rfl, by simp⟩
    · rw [if_neg h]; exact ⟨false, c :: r, rfl, Nat.le_refl _⟩
theorem want_ok (l : List UInt8) (b : Bool) (q : Int) (k : Nat) (hk : 20 ≤ k) : ∃ l' b', date_reader_want.f k (mkB l) b [q] = some (mkB l', b') ∧ l'.length ≤ l.length ∧ (b = true → b' = true) := by
  obtain ⟨k, rfl⟩ : ∃ q, k = q + 1 + 1 := ⟨k - 2, by omega⟩
  unfold date_reader_want.f
  cases b with
  | true => exact ⟨l, true, by simp [date_reader_want.l0, wrap64], Nat.le_refl _, fun _ => rfl⟩
  | false =>
    obtain ⟨t, l', e, hl⟩ := takes_ok l false q
    refine ⟨l', !t, ?_, hl, by simp⟩
    simp [date_reader_want.l0, wrap64, rd, e]
theorem frac_ok (l : List UInt8) (b : Bool) (hs : l.length ≤ 1000) (k : Nat) (hk : 20 ≤ k) : ∃ n l' b', date_reader_frac.f k (mkB l) b = some (n, mkB l', b') ∧ 0 ≤ n ∧ n ≤ 999999999 ∧ l'.length ≤ l.length ∧ (b = true → b' = true) := by
  obtain ⟨t, l1, e1, hl1⟩ := takes_ok l b 46
  unfold date_reader_frac.f
  rw [e1, Option.bind_some]
  cases t with
  | false => exact ⟨0, l1, b, by simp, by omega, by omega, hl1, fun h => h⟩
  | true =>
    obtain ⟨a, l', b', e, d1, d2, d3, d4, d5⟩ := digits_ok l1 b 1 9 (by omega) (by omega) (by omega) (by omega) k hk
    simp only [if_true]
    rw [show (1 : Int) = ((1 : Nat) : Int) from rfl, show (9 : Int) = ((9 : Nat) : Int) from rfl, e, Option.bind_some]
    have hr : Lib.repeatL [48] (9 - a.length) = List.replicate (9 - a.length) 48 := by
      have := Lib.repeatL_replicate 48 1 (9 - a.length)
      rw [Nat.mul_one] at this; exact this
    have hz : strings_Repeat.f (⟨#[48]⟩ : ByteArray) (wrap64 ((9 : Nat) - ((mkB a).size : Int))) = some (mkB (List.replicate (9 - a.length) 48)) := by
      unfold strings_Repeat.f
      rw [size_mkB, w64 (by omega) (by omega), if_pos ⟨by omega, by omega, by decide⟩, show (((9 : Nat) : Int) - (a.length : Int)).toNat = 9 - a.length from by omega]
      rw [show (⟨#[48]⟩ : ByteArray).data.toList = [48] from rfl, hr]; rfl
    rw [hz, Option.bind_some, mkB_append, if_pos (by rw [size_mkB, size_mkB]; simp; omega)]
    obtain ⟨n, en, hn, _⟩ := atoi_dig (a ++ List.replicate (9 - a.length) 48) (fun x hx => by
      rcases List.mem_append.mp hx with h | h
      · exact d1 x h
      · rw [(List.mem_replicate.mp h).2]; decide) (by simp; omega) (by simp; omega)
    have hn2 : n < 10 ^ 9 := Nat.lt_of_lt_of_le hn (Nat.pow_le_pow_right (by decide) (by simp; omega))
    rw [en, Option.bind_some]
    exact ⟨n, l', b', rfl, by omega, by omega, by omega, d5⟩
theorem year_ok (l : List UInt8) (b : Bool) (hs : l.length ≤ 1000) (k : Nat) (hk : 20 ≤ k) : ∃ n l' b', date_reader_year.f k (mkB l) b = some (n, mkB l', b') ∧ -999999999 ≤ n ∧ n ≤ 999999999 ∧ (b' = false → n ≠ 0) ∧ l'.length ≤ l.length ∧ (b = true → b' = true) := by
  obtain ⟨t, l1, e1, hl1⟩ := takes_ok l b 45
  obtain ⟨a, l', b', e, d1, d2, d3, d4, d5⟩ := digits_ok l1 b 4 9 (by omega) (by omega) (by omega) (by omega) k hk
  obtain ⟨n, en, hn, _⟩ := atoi_dig a d1 d2 (by omega)
  have hn2 : n < 10 ^ 9 := Nat.lt_of_lt_of_le hn (Nat.pow_le_pow_right (by decide) d3)
  have hw : wrap64 (-(n : Int)) = -(n : Int) := w64 (by omega) (by omega)
  have hp : (0 : Int) < ((mkB a).size : Int) := by rw [size_mkB]; omega
  unfold date_reader_year.f
  rw [e1, Option.bind_some]
  simp only []
  rw [show (4 : Int) = ((4 : Nat) : Int) from rfl, show (9 : Int) = ((9 : Nat) : Int) from rfl, e, Option.bind_some, en, Option.bind_some]
  simp only [hw, hp, if_true]
  cases b' with
  | true => cases t <;> simp only [if_true, if_false, Bool.false_eq_true] <;> exact ⟨_, _, _, rfl, by omega, by omega, by simp, by omega, fun _ => rfl⟩
  | false =>
    simp only [if_false, Bool.false_eq_true]
    by_cases h0 : (n : Int) = 0
    · rw [if_pos h0]
      cases t <;> simp only [if_true, if_false, Bool.false_eq_true] <;> exact ⟨_, _, _, rfl, by omega, by omega, by simp, by omega, fun _ => rfl⟩
    · rw [if_neg h0]
      have hb : b = false := by cases b; rfl; exact absurd (d5 rfl) (by simp)
      subst hb
      split <;> (cases t <;> simp only [if_true, if_false, Bool.false_eq_true]) <;> exact ⟨_, _, _, rfl, by omega, by omega, fun _ => by omega, by omega, by simp⟩
theorem clock_ok (l : List UInt8) (b : Bool) (hs : l.length ≤ 1000) (k : Nat) (hk : 20 ≤ k) : ∃ s n f l' b', date_reader_clock.f k (mkB l) b = some (s, n, f, mkB l', b') ∧ 0 ≤ s ∧ s ≤ 500000 ∧ (b' = false → s < 86400) ∧ 0 ≤ n ∧ n ≤ 999999999 ∧ (f = true → s = 0 ∧ n = 0) ∧ l'.length ≤ l.length ∧ (b = true → b' = true) := by
  obtain ⟨h, l1, b1, e1, p1, q1, r1, s1, t1⟩ := number_ok l b 0 24 hs k hk
  obtain ⟨l2, b2, e2, s2, t2⟩ := want_ok l1 b1 58 k hk
  obtain ⟨m, l3, b3, e3, p3, q3, r3, s3, t3⟩ := number_ok l2 b2 0 59 (by omega) k hk
  obtain ⟨l4, b4, e4, s4, t4⟩ := want_ok l3 b3 58 k hk
  obtain ⟨s, l5, b5, e5, p5, q5, r5, s5, t5⟩ := number_ok l4 b4 0 59 (by omega) k hk
  obtain ⟨n, l6, b6, e6, p6, q6, s6, t6⟩ := frac_ok l5 b5 (by omega) k hk
  unfold date_reader_clock.f
  simp only [e1, e2, e3, e4, e5, e6, Option.bind_some]
  have back : ∀ {x y : Bool}, (x = true → y = true) → y = false → x = false := by intro x y; cases x <;> cases y <;> simp
  by_cases h24 : h = 24
  · rw [if_pos h24]
    cases b6 with
    | true => exact ⟨0, 0, true, l6, true, by simp, by omega, by omega, by simp, by omega, by omega, fun _ => ⟨rfl, rfl⟩, by omega, fun _ => rfl⟩
    | false =>
      have hb : b = false := back t1 (back t2 (back t3 (back t4 (back t5 (back t6 rfl)))))
      exact ⟨0, 0, true, l6, _, by simp; rfl, by omega, by omega, by simp, by omega, by omega, fun _ => ⟨rfl, rfl⟩, by omega, by rw [hb]; simp⟩
  · rw [if_neg h24, w64 (x := 3600 * h) (by omega) (by omega), w64 (x := 60 * m) (by omega) (by omega), w64 (x := 3600 * h + 60 * m) (by omega) (by omega), w64 (x := 3600 * h + 60 * m + s) (by omega) (by omega)]
    refine ⟨_, n, false, l6, b6, rfl, by omega, by omega, fun hb6 => ?_, p6, q6, by simp, by omega, fun hb => t6 (t5 (t4 (t3 (t2 (t1 hb)))))⟩
    have g5 := back t6 hb6
    have g4 := back t5 g5
    have g3 := back t4 g4
    have g2 := back t3 g3
    have g1 := back t2 g2
    have := r1 g1; have := r3 g3; have := r5 g5
    omega
theorem zone_ok (l : List UInt8) (b : Bool) (hs : l.length ≤ 1000) (k : Nat) (hk : 20 ≤ k) : ∃ has z l' b', date_reader_zone.f k (mkB l) b = some (has, z, mkB l', b') ∧ (b' = false → -840 ≤ z ∧ z ≤ 840) ∧ l'.length ≤ l.length ∧ (b = true → b' = true) := by
  obtain ⟨t1, l1, e1, s1⟩ := takes_ok l b 90
  obtain ⟨t2, l2, e2, s2⟩ := takes_ok l1 b 45
  obtain ⟨t3, l3, e3, s3⟩ := takes_ok l2 b 43
  have back : ∀ {x y : Bool}, (x = true → y = true) → y = false → x = false := by intro x y; cases x <;> cases y <;> simp
  unfold date_reader_zone.f
  simp only [e1, Option.bind_some]
  cases t1 with
  | true => exact ⟨true, 0, l1, b, by simp, fun _ => by omega, by omega, fun h => h⟩
  | false =>
    simp only [e2, Option.bind_some, if_false, Bool.false_eq_true]
    cases t2 with
    | true =>
      obtain ⟨h, l4, b4, e4, p4, q4, r4, s4, u4⟩ := number_ok l2 b 0 14 (by omega) k hk
      obtain ⟨l5, b5, e5, s5, u5⟩ := want_ok l4 b4 58 k hk
      obtain ⟨m, l6, b6, e6, p6, q6, r6, s6, u6⟩ := number_ok l5 b5 0 59 (by omega) k hk
      simp only [e4, e5, e6, Option.bind_some, if_true]
      rw [w64 (x := 60 * h) (by omega) (by omega), w64 (x := 60 * h + m) (by omega) (by omega), w64 (x := -1 * (60 * h + m)) (by omega) (by omega)]
      cases b6 with
      | true => exact ⟨true, _, l6, true, by simp; rfl, by simp, by omega, fun _ => rfl⟩
      | false =>
        have hb : b = false := back u4 (back u5 (back u6 rfl))
        by_cases hz : 60 * h + m > 840
        · exact ⟨true, _, l6, true, by simp [hz]; rfl, by simp, by omega, fun _ => rfl⟩
        · exact ⟨true, _, l6, false, by simp [hz]; rfl, fun _ => by omega, by omega, by rw [hb]; simp⟩
    | false =>
      simp only [e3, Option.bind_some, if_false, Bool.false_eq_true]
      cases t3 with
      | true =>
        obtain ⟨h, l4, b4, e4, p4, q4, r4, s4, u4⟩ := number_ok l3 b 0 14 (by omega) k hk
        obtain ⟨l5, b5, e5, s5, u5⟩ := want_ok l4 b4 58 k hk
        obtain ⟨m, l6, b6, e6, p6, q6, r6, s6, u6⟩ := number_ok l5 b5 0 59 (by omega) k hk
        simp only [e4, e5, e6, Option.bind_some, if_true]
        rw [w64 (x := 60 * h) (by omega) (by omega), w64 (x := 60 * h + m) (by omega) (by omega), w64 (x := 1 * (60 * h + m)) (by omega) (by omega)]
        cases b6 with
        | true => exact ⟨true, _, l6, true, by simp; rfl, by simp, by omega, fun _ => rfl⟩
        | false =>
          have hb : b = false := back u4 (back u5 (back u6 rfl))
          by_cases hz : 60 * h + m > 840
          · exact ⟨true, _, l6, true, by simp [hz]; rfl, by simp, by omega, fun _ => rfl⟩
          · exact ⟨true, _, l6, false, by simp [hz]; rfl, fun _ => by omega, by omega, by rw [hb]; simp⟩
      | false => exact ⟨false, 0, l3, b, by simp, fun _ => by omega, by omega, fun h => h⟩

end Go.Proofs.YtehaonhgbmlmnaaDoor.B
