import Derived.Test.YtehaonhgbmlmnaaDoorB6
import Derived.Test.YtehaonhgbmlmnaaDoorPrx11
namespace Go.Proofs.YtehaonhgbmlmnaaDoor.B
open Go.RowKit Go.Proofs.YtehaonhgbmlmnaaDoor Go.Proofs.YtehaonhgbmlmnaaDoor.G Go.Proofs.YtehaonhgbmlmnaaDoor.Pr Go.Proofs.YtehaonhgbmlmnaaDoorW.PrintWords Go.Proofs.YtehaonhgbmlmnaaDoorW.PrintLast
set_option linter.unusedVariables false
set_option linter.unusedSimpArgs false
/-! ### date.Parse always answers -/
structure Okx (x : St) : Prop where
  s : ∃ l, x.s = mkB l ∧ l.length ≤ 1000
  y : -999999999 ≤ x.y ∧ x.y ≤ 999999999 ∧ (x.bad = false → x.y ≠ 0)
  m : 0 ≤ x.mo ∧ x.mo ≤ 99 ∧ (x.bad = false → 1 ≤ x.mo ∧ x.mo ≤ 12)
  d : 0 ≤ x.d ∧ x.d ≤ 99 ∧ (x.bad = false → 1 ≤ x.d ∧ x.d ≤ 31)
  t : 0 ≤ x.sec ∧ (x.bad = false → x.sec < 86400)
  n : 0 ≤ x.nano ∧ x.nano ≤ 999999999
  f : x.fin = true → x.sec = 0 ∧ x.nano = 0
theorem bk {x y : Bool} (h : x = true → y = true) : y = false → x = false := by revert h; cases x <;> cases y <;> simp
theorem step_ok (k : Nat) (hk : 20 ≤ k) (f : Fld) (x : St) (h : Okx x) : ∃ y, G.step k f x = some y ∧ Okx y := by
  obtain ⟨l, hs, hl⟩ := h.s
  cases f with
  | year =>
    obtain ⟨n, l', b', e, p1, p2, p3, p4, p5⟩ := year_ok l x.bad hl k hk
    exact ⟨{ x with y := n, s := mkB l', bad := b' }, by simp only [G.step]; rw [hs, e]; rfl, ⟨l', rfl, by omega⟩, ⟨p1, p2, p3⟩, ⟨h.m.1, h.m.2.1, fun q => h.m.2.2 (bk p5 q)⟩, ⟨h.d.1, h.d.2.1, fun q => h.d.2.2 (bk p5 q)⟩, ⟨h.t.1, fun q => h.t.2 (bk p5 q)⟩, h.n, h.f⟩
  | month =>
    obtain ⟨n, l', b', e, p1, p2, p3, p4, p5⟩ := number_ok l x.bad 1 12 hl k hk
    exact ⟨{ x with mo := n, s := mkB l', bad := b' }, by simp only [G.step]; rw [hs, e]; rfl, ⟨l', rfl, by omega⟩, ⟨h.y.1, h.y.2.1, fun q => h.y.2.2 (bk p5 q)⟩, ⟨p1, p2, p3⟩, ⟨h.d.1, h.d.2.1, fun q => h.d.2.2 (bk p5 q)⟩, ⟨h.t.1, fun q => h.t.2 (bk p5 q)⟩, h.n, h.f⟩
  | day =>
    obtain ⟨n, l', b', e, p1, p2, p3, p4, p5⟩ := number_ok l x.bad 1 31 hl k hk
    exact ⟨{ x with d := n, s := mkB l', bad := b' }, by simp only [G.step]; rw [hs, e]; rfl, ⟨l', rfl, by omega⟩, ⟨h.y.1, h.y.2.1, fun q => h.y.2.2 (bk p5 q)⟩, ⟨h.m.1, h.m.2.1, fun q => h.m.2.2 (bk p5 q)⟩, ⟨p1, p2, p3⟩, ⟨h.t.1, fun q => h.t.2 (bk p5 q)⟩, h.n, h.f⟩
  | clock =>
    obtain ⟨s, n, f, l', b', e, p1, p2, p3, p4, p5, p6, p7, p8⟩ := clock_ok l x.bad hl k hk
    exact ⟨{ x with sec := s, nano := n, fin := f, s := mkB l', bad := b' }, by simp only [G.step]; rw [hs, e]; rfl, ⟨l', rfl, by omega⟩, ⟨h.y.1, h.y.2.1, fun q => h.y.2.2 (bk p8 q)⟩, ⟨h.m.1, h.m.2.1, fun q => h.m.2.2 (bk p8 q)⟩, ⟨h.d.1, h.d.2.1, fun q => h.d.2.2 (bk p8 q)⟩, ⟨p1, p3⟩, ⟨p4, p5⟩, p6⟩
  | dash =>
    obtain ⟨l', b', e, p4, p5⟩ := want_ok l x.bad 45 k hk
    exact ⟨{ x with s := mkB l', bad := b' }, by simp only [G.step]; rw [hs, e]; rfl, ⟨l', rfl, by omega⟩, ⟨h.y.1, h.y.2.1, fun q => h.y.2.2 (bk p5 q)⟩, ⟨h.m.1, h.m.2.1, fun q => h.m.2.2 (bk p5 q)⟩, ⟨h.d.1, h.d.2.1, fun q => h.d.2.2 (bk p5 q)⟩, ⟨h.t.1, fun q => h.t.2 (bk p5 q)⟩, h.n, h.f⟩
  | sharp =>
    obtain ⟨l', b', e, p4, p5⟩ := want_ok l x.bad 84 k hk
    exact ⟨{ x with s := mkB l', bad := b' }, by simp only [G.step]; rw [hs, e]; rfl, ⟨l', rfl, by omega⟩, ⟨h.y.1, h.y.2.1, fun q => h.y.2.2 (bk p5 q)⟩, ⟨h.m.1, h.m.2.1, fun q => h.m.2.2 (bk p5 q)⟩, ⟨h.d.1, h.d.2.1, fun q => h.d.2.2 (bk p5 q)⟩, ⟨h.t.1, fun q => h.t.2 (bk p5 q)⟩, h.n, h.f⟩
theorem run_ok (k : Nat) (hk : 20 ≤ k) : ∀ (l : List Fld) (x : St), Okx x → ∃ y, G.run k l x = some y ∧ Okx y
  | [], x, h => ⟨x, rfl, h⟩
  | f :: l, x, h => by
    obtain ⟨y, e, hy⟩ := step_ok k hk f x h
    obtain ⟨z, ez, hz⟩ := run_ok k hk l y hy
    exact ⟨z, by simp only [G.run]; rw [e]; exact ez, hz⟩
/-- A moment that can be reckoned with. -/
structure Mok (K Y M D S N : Int) (hz : Bool) (z : Int) : Prop where
  y : -5000000000 ≤ Y ∧ Y ≤ 5000000000
  m : 1 ≤ M ∧ M ≤ 12
  d : 1 ≤ D ∧ D ≤ 31
  s : 0 ≤ S ∧ S < 86400
  n : 0 ≤ N ∧ N ≤ 999999999
  z : -840 ≤ z ∧ z ≤ 840
theorem parse_ok (k : Nat) (hk : 500 ≤ k) (a0 : Int) (s : ByteArray) (hs : s.size ≤ 1000) : ∃ Y M D S N hz z e, (date_Parse.f k a0 s = some (0, 0, 0, 0, 0, 0, false, 0, e) ∧ e ≠ 0 ∧ (Y, M, D, S, N, hz, z) = ((0, 0, 0, 0, 0, false, 0) : Int × Int × Int × Int × Int × Bool × Int)) ∨ (date_Parse.f k a0 s = some (a0, Y, M, D, S, N, hz, z, e) ∧ e = 0 ∧ Mok a0 Y M D S N hz z) := by
  unfold date_Parse.f
  by_cases h1 : a0 < 1
  · rw [if_pos h1]; exact ⟨0, 0, 0, 0, 0, false, 0, 1, .inl ⟨rfl, by decide, rfl⟩⟩
  rw [if_neg h1]
  by_cases h2 : a0 > 8
  · rw [if_pos h2]; exact ⟨0, 0, 0, 0, 0, false, 0, 1, .inl ⟨rfl, by decide, rfl⟩⟩
  rw [if_neg h2]
  obtain ⟨x, ex, hx⟩ := run_ok k (by omega) (fieldsOf a0) ⟨s, false, 2000, 1, 1, 0, 0, false⟩ ⟨⟨lst s, (mkB_lst s).symm, by rw [lst_length]; exact hs⟩, ⟨(by decide : (-999999999 : Int) ≤ 2000), (by decide : (2000 : Int) ≤ 999999999), fun _ => (by decide : (2000 : Int) ≠ 0)⟩, ⟨(by decide : (0 : Int) ≤ 1), (by decide : (1 : Int) ≤ 99), fun _ => (by decide : (1 : Int) ≤ 1 ∧ (1 : Int) ≤ 12)⟩, ⟨(by decide : (0 : Int) ≤ 1), (by decide : (1 : Int) ≤ 99), fun _ => (by decide : (1 : Int) ≤ 1 ∧ (1 : Int) ≤ 31)⟩, ⟨(by decide : (0 : Int) ≤ 0), fun _ => (by decide : (0 : Int) < 86400)⟩, ⟨(by decide : (0 : Int) ≤ 0), (by decide : (0 : Int) ≤ 999999999)⟩, by simp⟩
  obtain ⟨l, hl, hll⟩ := hx.s
  obtain ⟨has, z, l', b', ez, pz, pl, pb⟩ := zone_ok l x.bad hll k (by omega)
  rw [ex, Option.bind_some, hl, ez, Option.bind_some]
  simp only []
  cases b' with
  | true => rw [if_pos rfl]; exact ⟨0, 0, 0, 0, 0, false, 0, 2, .inl ⟨rfl, by decide, rfl⟩⟩
  | false =>
    rw [if_neg (by decide)]
    by_cases hn : (mkB l').toList = []
    · rw [if_neg (by simpa using hn)]
      have hb := bk pb rfl
      have hm := hx.m.2.2 hb
      have hd := hx.d.2.2 hb
      have hy := hx.y
      have hy0 := hy.2.2 hb
      have ht := hx.t.2 hb
      have hz := pz rfl
      rw [Length_k (by omega) (by omega) (by omega) hm.1 hm.2, Option.bind_some]
      by_cases hL : x.d > mlen (ofY x.y) x.mo
      · rw [if_pos hL]; exact ⟨0, 0, 0, 0, 0, false, 0, 2, .inl ⟨rfl, by decide, rfl⟩⟩
      · rw [if_neg hL]
        by_cases hf : x.fin = true ∧ a0 = 1
        · rw [if_pos hf]
          obtain ⟨c, y, m, v, e1, e2, c1, c2⟩ := of_year' (Y := x.y) (M := x.mo) (D := x.d) (by omega) (by omega) hy0 hm.1 hm.2 hd.1 (by omega)
          have h0 := hx.f hf.1
          have hr := v.rest
          have hy0' := v.y0; have hy1' := v.y1
          have hYd := Yd_bd v.y0 (by omega)
          have hcm := cum_bd y m
          obtain ⟨c', y', m', d', v', e3⟩ := vd_of' (num c y m x.d + 1) (by unfold num; omega) (by unfold num; omega)
          have hadd := Add_sec' (K := a0) (S := x.sec) (N := x.nano) (z := z) (sec := 86400) (nano := 0) (hz := has) v v' (by omega) (by omega) (by omega) (by omega) (by omega) (by omega) (by omega) (by rw [e3]; omega) k hk
          rw [e1, e2] at hadd
          have hY := Yr_bd v'
          have hm1 := v'.m1
          have hd0 := v'.d0
          have hd1 := v'.d1
          have hr31 := mlen_range y' ((m' : Int) + 1)
          rw [hadd, Option.bind_some]
          exact ⟨Yr c' y', (m' : Int) + 1, d', (x.sec + 86400) % 86400, x.nano + 0, has, z, 0, .inr ⟨rfl, rfl, hY, by omega, by omega, by omega, by omega, hz⟩⟩
        · rw [if_neg hf]
          exact ⟨x.y, x.mo, x.d, x.sec, x.nano, has, z, 0, .inr ⟨rfl, rfl, ⟨by omega, by omega⟩, hm, hd, ⟨hx.t.1, ht⟩, hx.n, hz⟩⟩
    · rw [if_pos hn]; exact ⟨0, 0, 0, 0, 0, false, 0, 2, .inl ⟨rfl, by decide, rfl⟩⟩
/-! ### the line -/
def dl (Y M D : Int) : Int := dn (ofY Y) (M - 1).toNat D
theorem dn_bd {L D : Int} {m : Nat} (h1 : -10000000000 ≤ L) (h2 : L ≤ 10000000000) (hm : m ≤ 12) (d1 : -100000 ≤ D) (d2 : D ≤ 100000) : -10000000000000 ≤ dn L m D ∧ dn L m D ≤ 10000000000000 := by
  have hYd := Yd_bd (y := (L - 2000) % 400) (by omega) (by omega)
  have hc := cum_bd ((L - 2000) % 400) m
  unfold dn
  omega
theorem dl_bd {K Y M D S N z : Int} {hz : Bool} (h : Mok K Y M D S N hz z) : -10000000000000 ≤ dl Y M D ∧ dl Y M D ≤ 10000000000000 := by
  have hy := h.y; have hm := h.m; have hd := h.d
  have ho : Y ≤ ofY Y ∧ ofY Y ≤ Y + 1 := by unfold ofY; split <;> omega
  exact dn_bd (by omega) (by omega) (by omega) (by omega) (by omega)
def ln (Y M D S z : Int) : Int := 86400 * dl Y M D + S - 60 * z
theorem line_f {K Y M D S N z : Int} {hz : Bool} (h : Mok K Y M D S N hz z) {q : Int} (q1 : -840 ≤ q) (q2 : q ≤ 840) (k : Nat) (hk : 20 ≤ k) : date_line.f k K Y M D S N hz z q = some (ln Y M D S q, N) := by
  have hy := h.y; have hm := h.m; have hd := h.d; have hs := h.s
  have hb := dl_bd h
  unfold date_line.f
  rw [Days_f (by omega) (by omega) (by omega) (by omega) (by omega) (by omega) (by omega) k hk, Option.bind_some]
  have e : dn (ofY Y + (M - 1) / 12) ((M - 1) % 12).toNat D = dl Y M D := by
    unfold dl
    rw [show (M - 1) / 12 = 0 from by omega, show (M - 1) % 12 = M - 1 from by omega, Int.add_zero]
  rw [e, w64 (x := 86400 * dl Y M D) (by omega) (by omega), w64 (x := 86400 * dl Y M D + S) (by omega) (by omega), w64 (x := 60 * q) (by omega) (by omega), w64 (by omega) (by omega)]
  rfl
/-! ### the reference's days -/
theorem rline_f {y : Int} (h : -9223372036854775808 ≤ y) (h2 : y ≤ 9223372036854775807) : rubricref6_line.f y = some (ofY y) := by
  unfold rubricref6_line.f ofY
  split
  · rw [w64 (by omega) (by omega)]
  · rfl
theorem rback_f {l : Int} (h : -9223372036854775807 ≤ l) (h2 : l ≤ 9223372036854775807) : rubricref6_back.f l = some (sdY l) := by
  unfold rubricref6_back.f sdY
  by_cases h0 : l ≤ 0
  · rw [if_pos h0, if_pos (by omega), w64 (by omega) (by omega)]
  · rw [if_neg h0, if_neg (by omega)]
def ah (l : Int) : Int := 365 * l + (l + 3) / 4 - (l + 99) / 100 + (l + 399) / 400
theorem ahead_f {l : Int} (h1 : -10000000000 ≤ l) (h2 : l ≤ 10000000000) : rubricref6_ahead.f l = some (ah l) := by
  unfold rubricref6_ahead.f
  rw [w64 (x := l + 3) (by omega) (by omega), w64 (x := l + 99) (by omega) (by omega), w64 (x := l + 399) (by omega) (by omega)]
  rw [rdiv_f (by omega) (by omega) (by omega) (by omega), Option.bind_some, rdiv_f (by omega) (by omega) (by omega) (by omega), Option.bind_some, rdiv_f (by omega) (by omega) (by omega) (by omega), Option.bind_some]
  rw [w64 (x := 365 * l) (by omega) (by omega), w64 (x := 365 * l + (l + 3) / 4) (by omega) (by omega), w64 (x := 365 * l + (l + 3) / 4 - (l + 99) / 100) (by omega) (by omega), w64 (by omega) (by omega)]
  rfl
theorem ah_dn (l : Int) : ah l - ah 2000 = (l - 2000) / 400 * 146097 + Yd ((l - 2000) % 400) := by
  unfold ah Yd
  omega
theorem rleap_f {y : Int} (h : -9223372036854775808 ≤ y) (h2 : y ≤ 9223372036854775807) : rubricref6_Leap.f y = some (lp (ofY y)) := by
  unfold rubricref6_Leap.f
  rw [rline_f h h2, Option.bind_some]
  unfold rubricref6_leap.f
  rw [rmod_f (by omega) (by omega), Option.bind_some]
  unfold lp
  by_cases h4 : ofY y % 4 = 0
  · rw [if_pos h4, rmod_f (by omega) (by omega), Option.bind_some]
    by_cases h100 : ofY y % 100 = 0
    · rw [if_pos h100, rmod_f (by omega) (by omega), Option.bind_some, Option.bind_some]
      by_cases h400 : ofY y % 400 = 0
      · simp [h4, h400]
      · simp [h100, h400]
    · rw [if_neg h100, Option.bind_some]
      simp [h4, h100]
  · rw [if_neg h4, Option.bind_some]
    simp [h4]
theorem rLength_f {k : Nat} (hk : 2 ≤ k) {y m : Int} (h : -9223372036854775808 ≤ y) (h2 : y ≤ 9223372036854775807) (m1 : 1 ≤ m) (m2 : m ≤ 12) : rubricref6_Length.f k y m = some (mlen (ofY y) m) := by
  obtain ⟨k, rfl⟩ : ∃ q, k = q + 1 := ⟨k - 1, by omega⟩
  have hm : m = 1 ∨ m = 2 ∨ m = 3 ∨ m = 4 ∨ m = 5 ∨ m = 6 ∨ m = 7 ∨ m = 8 ∨ m = 9 ∨ m = 10 ∨ m = 11 ∨ m = 12 := by omega
  unfold rubricref6_Length.f mlen
  rw [rleap_f h h2, Option.bind_some]
  rcases hm with rfl | rfl | rfl | rfl | rfl | rfl | rfl | rfl | rfl | rfl | rfl | rfl <;> first | rfl | (simp [rubricref6_Length.j0]; done) | (cases lp (ofY y) <;> rfl)
theorem rDays_l0 {L d : Int} {m : Nat} (h1 : -10000000000 ≤ L) (h2 : L ≤ 10000000000) (hm : m < 12) (hd1 : -100000 ≤ d) (hd2 : d ≤ 100000) : ∀ (n i : Nat) (acc : Int), i + n = m → -1000000000000000 ≤ acc → acc ≤ 1000000000000000 - 31 * n → ∀ k, n + 3 ≤ k →
    rubricref6_Days.l0 k d L ((m : Int) + 1) acc ((i : Int) + 1) = some (acc + (cum ((L - 2000) % 400) m - cum ((L - 2000) % 400) i) + d - 1) := by
  intro n
  induction n with
  | zero =>
    intro i acc hi a1 a2 k hk
    obtain ⟨k, rfl⟩ : ∃ q, k = q + 1 := ⟨k - 1, by omega⟩
    obtain rfl : i = m := by omega
    simp only [rubricref6_Days.l0]
    rw [if_neg (by omega), w64 (x := acc + d) (by omega) (by omega), w64 (by omega) (by omega)]
    rw [Int.sub_self, Int.add_zero]
  | succ n ih =>
    intro i acc hi a1 a2 k hk
    obtain ⟨k, rfl⟩ : ∃ q, k = q + 1 := ⟨k - 1, by omega⟩
    have hs : -10000000001 ≤ sdY L ∧ sdY L ≤ 10000000000 := by unfold sdY; split <;> omega
    have e0 : mlen L ((i : Int) + 1) = mlen ((L - 2000) % 400) ((i : Int) + 1) := by
      have := mlen_period ((L - 2000) / 400) ((L - 2000) % 400) ((i : Int) + 1)
      rwa [show 2000 + 400 * ((L - 2000) / 400) + (L - 2000) % 400 = L from by omega] at this
    have hr := mlen_range ((L - 2000) % 400) ((i : Int) + 1)
    simp only [rubricref6_Days.l0]
    rw [if_pos (by omega), rback_f (by omega) (by omega), Option.bind_some, rLength_f (by omega) (by omega) (by omega) (by omega) (by omega), Option.bind_some, ofY_sdY, e0]
    rw [w64 (x := acc + mlen ((L - 2000) % 400) ((i : Int) + 1)) (by omega) (by omega), w64 (x := (i : Int) + 1 + 1) (by omega) (by omega)]
    have ih' := ih (i + 1) (acc + mlen ((L - 2000) % 400) ((i : Int) + 1)) (by omega) (by omega) (by omega) k (by omega)
    rw [show ((i + 1 : Nat) : Int) = (i : Int) + 1 from by omega] at ih'
    rw [ih']
    have e : cum ((L - 2000) % 400) (i + 1) = cum ((L - 2000) % 400) i + mlen ((L - 2000) % 400) ((i : Int) + 1) := rfl
    rw [e]
    congr 1
    omega
theorem rsec_f {K Y M D S N z : Int} {hz : Bool} (h : Mok K Y M D S N hz z) {q : Int} (q1 : -840 ≤ q) (q2 : q ≤ 840) (k : Nat) (hk : 20 ≤ k) : rubricref6_seconds.f k K Y M D S N hz z q = some (ln Y M D S q) := by
  have hy := h.y; have hm := h.m; have hd := h.d; have hs := h.s
  have hb := dl_bd h
  have ho : Y ≤ ofY Y ∧ ofY Y ≤ Y + 1 := by unfold ofY; split <;> omega
  have hD : rubricref6_Days.f k Y M D = some (dl Y M D) := by
    unfold rubricref6_Days.f
    rw [rline_f (by omega) (by omega), Option.bind_some, w64 (x := M - 1) (by omega) (by omega), rdiv_f (by omega) (by omega) (by omega) (by omega), Option.bind_some, rmod_f (by omega) (by omega), Option.bind_some]
    rw [show (M - 1) / 12 = 0 from by omega, show (M - 1) % 12 = M - 1 from by omega, Int.add_zero, w64 (x := ofY Y) (by omega) (by omega), ahead_f (by omega) (by omega), Option.bind_some, ahead_f (by omega) (by omega), Option.bind_some]
    have ha := ah_dn (ofY Y)
    have hYd := Yd_bd (y := (ofY Y - 2000) % 400) (by omega) (by omega)
    rw [w64 (x := M - 1 + 1) (by omega) (by omega), w64 (x := ah (ofY Y) - ah 2000) (by omega) (by omega)]
    have := rDays_l0 (L := ofY Y) (d := D) (m := (M - 1).toNat) (by omega) (by omega) (by omega) (by omega) (by omega) (M - 1).toNat 0 (ah (ofY Y) - ah 2000) (by omega) (by omega) (by omega) k (by omega)
    rw [show (((M - 1).toNat : Nat) : Int) + 1 = M - 1 + 1 from by omega, show (((0 : Nat)) : Int) + 1 = 1 from rfl] at this
    rw [this, ha]
    unfold dl dn
    rw [show cum ((ofY Y - 2000) % 400) 0 = 0 from rfl, Int.sub_zero]
  unfold rubricref6_seconds.f
  rw [hD, Option.bind_some, w64 (x := 86400 * dl Y M D) (by omega) (by omega), w64 (x := 86400 * dl Y M D + S) (by omega) (by omega), w64 (x := 60 * q) (by omega) (by omega), w64 (by omega) (by omega)]
  rfl
/-! ### orders -/
def cO (a an b bn : Int) : Int := if a < b ∨ a = b ∧ an < bn then -1 else if a = b ∧ an = bn then 0 else 1
theorem order_f (a an b bn : Int) (k : Nat) (hk : 2 ≤ k) : date_order.f k a an b bn = some (cO a an b bn) := by
  obtain ⟨k, rfl⟩ : ∃ q, k = q + 1 := ⟨k - 1, by omega⟩
  unfold date_order.f cO
  by_cases h1 : a < b
  · simp [h1, date_order.j0]
  · by_cases h2 : a = b
    · by_cases h3 : an < bn
      · simp [h2, h3, date_order.j0]
      · by_cases h4 : an = bn
        · subst h2 h4; simp [date_order.j0]
        · have h5 : an > bn := by omega
          subst h2; simp [h3, h4, h5, date_order.j0]
    · have h5 : a > b := by omega
      simp [h1, h2, h5, date_order.j0]
theorem rorder_f (a an b bn : Int) (k : Nat) (hk : 2 ≤ k) : rubricref6_order.f k a an b bn = some (cO a an b bn) := by
  obtain ⟨k, rfl⟩ : ∃ q, k = q + 1 := ⟨k - 1, by omega⟩
  unfold rubricref6_order.f cO
  by_cases h1 : a < b
  · simp [h1, rubricref6_order.j0]
  · by_cases h2 : a = b
    · by_cases h3 : an < bn
      · simp [h2, h3, rubricref6_order.j0]
      · by_cases h4 : an = bn
        · subst h2 h4; simp [rubricref6_order.j0]
        · subst h2; simp [h3, h4, rubricref6_order.j0]
    · simp [h1, h2, rubricref6_order.j0]
theorem at_f {K Y M D S N z K' Y' M' D' S' N' z' : Int} {hz hz' : Bool} (h : Mok K Y M D S N hz z) (h' : Mok K' Y' M' D' S' N' hz' z') {q q' : Int} (q1 : -840 ≤ q) (q2 : q ≤ 840) (r1 : -840 ≤ q') (r2 : q' ≤ 840) (k : Nat) (hk : 20 ≤ k) :
    date_at.f k K Y M D S N hz z q K' Y' M' D' S' N' hz' z' q' = some (cO (ln Y M D S q) N (ln Y' M' D' S' q') N') := by
  unfold date_at.f
  rw [line_f h q1 q2 k hk, Option.bind_some, line_f h' r1 r2 k hk, Option.bind_some, order_f _ _ _ _ k (by omega), Option.bind_some]
theorem cO_sw (a an b bn : Int) : cO b bn a an = -cO a an b bn := by
  unfold cO
  repeat' split
  all_goals omega
theorem cO_of (a an b bn : Int) : cO a an b bn = -1 ∨ cO a an b bn = 0 ∨ cO a an b bn = 1 := by
  unfold cO
  repeat' split
  all_goals simp
/-- One with a zone against one without. -/
def mix (A an B bn : Int) : Int := if cO (A - 50400) an B bn = cO (A + 50400) an B bn then (if cO (A - 50400) an B bn = 0 then 2 else cO (A - 50400) an B bn) else 2
def ng (c : Int) : Int := if c = -1 then 1 else if c = 1 then -1 else 2
def cP (A an : Int) (ha : Bool) (za : Int) (B bn : Int) (hb : Bool) (zb : Int) : Int :=
  if (ha == hb) = true then cO (A - 60 * za) an (B - 60 * zb) bn else if ha = true then ng (mix B bn (A - 60 * za) an) else mix A an (B - 60 * zb) bn
def l0 (Y M D S : Int) : Int := 86400 * dl Y M D + S
theorem Cmp_f {K Y M D S N z Y' M' D' S' N' z' : Int} {hz hz' : Bool} (h : Mok K Y M D S N hz z) (h' : Mok K Y' M' D' S' N' hz' z') (k : Nat) (hk : 30 ≤ k) :
    date_Cmp.f k K Y M D S N hz z K Y' M' D' S' N' hz' z' = some (cP (l0 Y M D S) N hz z (l0 Y' M' D' S') N' hz' z') := by
  obtain ⟨k, rfl⟩ : ∃ q, k = q + 1 := ⟨k - 1, by omega⟩
  have hz1 := h.z; have hz2 := h'.z
  have e : ∀ Y M D S q, ln Y M D S q = l0 Y M D S - 60 * q := fun _ _ _ _ _ => rfl
  have base : ∀ (k : Nat), 20 ≤ k → ∀ {Y M D S N z Y' M' D' S' N' z' : Int} {hz hz' : Bool}, Mok K Y M D S N hz z → Mok K Y' M' D' S' N' hz' z' → (hz == hz') = false → hz = false → date_Cmp.f (k + 1) K Y M D S N hz z K Y' M' D' S' N' hz' z' = some (mix (l0 Y M D S) N (l0 Y' M' D' S' - 60 * z') N') := by
    intro k hk Y M D S N z Y' M' D' S' N' z' hz hz' h h' hne hf
    have hz2 := h'.z
    unfold date_Cmp.f
    rw [if_pos rfl, if_neg (by rw [hne]; simp), if_neg (by rw [hf]; simp), at_f h h' (by omega) (by omega) hz2.1 hz2.2 k hk, Option.bind_some, at_f h h' (by omega) (by omega) hz2.1 hz2.2 k hk, Option.bind_some]
    simp only [e]
    unfold mix
    rw [show l0 Y M D S - 60 * 840 = l0 Y M D S - 50400 from by omega, show l0 Y M D S - 60 * (-840) = l0 Y M D S + 50400 from by omega]
    split
    · split <;> rfl
    · rfl
  by_cases hh : (hz == hz') = true
  · unfold date_Cmp.f cP
    rw [if_pos rfl, if_pos hh, if_pos hh, at_f h h' hz1.1 hz1.2 hz2.1 hz2.2 k (by omega), Option.bind_some]
    simp only [e]
  · have hne : (hz == hz') = false := by simpa using hh
    cases hz with
    | false => rw [base k (by omega) h h' hne rfl]; unfold cP; rw [if_neg hh, if_neg (by simp)]
    | true =>
      have hf : hz' = false := by cases hz' <;> simp_all
      obtain ⟨k, rfl⟩ : ∃ q, k = q + 1 := ⟨k - 1, by omega⟩
      have hb := base k (by omega) h' h (by rw [hf]; rfl) hf
      unfold date_Cmp.f cP
      rw [if_pos rfl, if_neg hh, if_pos rfl, if_neg hh, if_pos rfl, hb, Option.bind_some]
      unfold ng
      split
      · rename_i hc; rw [hc, w64 (by omega) (by omega)]; rfl
      · split
        · rename_i hc; rw [hc, w64 (by omega) (by omega)]
        · rfl
theorem rCmp_f {K Y M D S N z Y' M' D' S' N' z' : Int} {hz hz' : Bool} (h : Mok K Y M D S N hz z) (h' : Mok K Y' M' D' S' N' hz' z') (k : Nat) (hk : 30 ≤ k) :
    rubricref6_Cmp.f k K Y M D S N hz z K Y' M' D' S' N' hz' z' = some (cP (l0 Y M D S) N hz z (l0 Y' M' D' S') N' hz' z') := by
  obtain ⟨k, rfl⟩ : ∃ q, k = q + 1 := ⟨k - 1, by omega⟩
  have hz1 := h.z; have hz2 := h'.z
  have e : ∀ Y M D S q, ln Y M D S q = l0 Y M D S - 60 * q := fun _ _ _ _ _ => rfl
  have base : ∀ (k : Nat), 20 ≤ k → ∀ {Y M D S N z Y' M' D' S' N' z' : Int} {hz hz' : Bool}, Mok K Y M D S N hz z → Mok K Y' M' D' S' N' hz' z' → (hz == hz') = false → hz = true → rubricref6_Cmp.f (k + 1) K Y M D S N hz z K Y' M' D' S' N' hz' z' = some (ng (mix (l0 Y' M' D' S') N' (l0 Y M D S - 60 * z) N)) := by
    intro k hk Y M D S N z Y' M' D' S' N' z' hz hz' h h' hne hf
    have hz1 := h.z
    unfold rubricref6_Cmp.f
    rw [if_pos rfl, if_neg (by rw [hne]; simp), if_pos hf]
    rw [rsec_f h hz1.1 hz1.2 k hk, Option.bind_some, rsec_f h' (by omega) (by omega) k hk, Option.bind_some, rorder_f _ _ _ _ k (by omega), Option.bind_some, Option.bind_some, rsec_f h' (by omega) (by omega) k hk, Option.bind_some, rorder_f _ _ _ _ k (by omega), Option.bind_some]
    simp only [e]
    rw [show l0 Y' M' D' S' - 60 * 840 = l0 Y' M' D' S' - 50400 from by omega, show l0 Y' M' D' S' - 60 * (-840) = l0 Y' M' D' S' + 50400 from by omega]
    generalize l0 Y' M' D' S' = A
    generalize l0 Y M D S - 60 * z = B
    unfold mix
    rw [cO_sw (A - 50400) N' B N, cO_sw (A + 50400) N' B N]
    have hx := cO_of (A - 50400) N' B N
    have hy := cO_of (A + 50400) N' B N
    generalize cO (A - 50400) N' B N = x at hx ⊢
    generalize cO (A + 50400) N' B N = y at hy ⊢
    rcases hx with rfl | rfl | rfl <;> rcases hy with rfl | rfl | rfl <;> rfl
  by_cases hh : (hz == hz') = true
  · unfold rubricref6_Cmp.f cP
    rw [if_pos rfl, if_pos hh, if_pos hh, rsec_f h hz1.1 hz1.2 k (by omega), Option.bind_some, rsec_f h' hz2.1 hz2.2 k (by omega), Option.bind_some, rorder_f _ _ _ _ k (by omega), Option.bind_some]
    simp only [e]
  · have hne : (hz == hz') = false := by simpa using hh
    cases hz with
    | true => rw [base k (by omega) h h' hne rfl]; unfold cP; rw [if_neg hh, if_pos rfl]
    | false =>
      have hf : hz' = true := by cases hz' <;> simp_all
      obtain ⟨k, rfl⟩ : ∃ q, k = q + 1 := ⟨k - 1, by omega⟩
      have hb := base k (by omega) h' h (by rw [hf]; rfl) hf
      unfold rubricref6_Cmp.f cP
      rw [if_pos rfl, if_neg hh, if_neg (by simp), if_neg hh, if_neg (by simp), hb, Option.bind_some]
      generalize l0 Y' M' D' S' - 60 * z' = B
      generalize l0 Y M D S = A
      have hmx : mix A N B N' = -1 ∨ mix A N B N' = 1 ∨ mix A N B N' = 2 := by
        unfold mix
        have hx := cO_of (A - 50400) N B N'
        have hy := cO_of (A + 50400) N B N'
        generalize cO (A - 50400) N B N' = x at hx ⊢
        generalize cO (A + 50400) N B N' = y at hy ⊢
        rcases hx with rfl | rfl | rfl <;> rcases hy with rfl | rfl | rfl <;> decide
      rcases hmx with h | h | h <;> rw [h] <;> first | rfl | (simp [wrap64, ng]; done)

end Go.Proofs.YtehaonhgbmlmnaaDoor.B
