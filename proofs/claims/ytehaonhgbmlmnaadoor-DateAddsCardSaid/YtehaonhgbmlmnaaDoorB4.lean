import Derived.Test.YtehaonhgbmlmnaaDoorB3
import Derived.Test.YtehaonhgbmlmnaaDoorPrx9
import Derived.Test.YtehaonhgbmlmnaaDoorPrx15
import Derived.KernelRfl
namespace Go.Proofs.YtehaonhgbmlmnaaDoor.B
open Go.RowKit Go.Proofs.YtehaonhgbmlmnaaDoor Go.Proofs.YtehaonhgbmlmnaaDoor.G Go.Proofs.YtehaonhgbmlmnaaDoor.Pr Go.Proofs.YtehaonhgbmlmnaaDoorW.PrintWords Go.Proofs.YtehaonhgbmlmnaaDoorW.PrintLast
set_option linter.unusedVariables false
set_option linter.unusedSimpArgs false
theorem known_t : rubriclaw6_known.f 60 = some true := by kernel_rfl
theorem known_k {k : Nat} (hk : 60 ≤ k) : rubriclaw6_known.f k = some true := at_rounds (fun k => rubriclaw6_known.mono k) hk known_t
/-! ### DateAdds -/
theorem adds_j0 {Y M D S days mo : Int} (y1 : -9000 ≤ Y) (y2 : Y ≤ 9000) (y3 : Y ≠ 0) (m1 : 1 ≤ M) (m2 : M ≤ 12) (d1 : 1 ≤ D) (d2 : D ≤ 28) (s1 : 0 ≤ S) (s2 : S ≤ 86399)
    (a1 : -1048576 ≤ days) (a2 : days ≤ 1048576) (b1 : -16384 ≤ mo) (b2 : mo ≤ 16384) (k : Nat) (hk : 600 ≤ k) : rubriclaw6_DateAdds.j0 (k + 1) Y M D S days mo false = some true := by
  obtain ⟨c, y, m, h, rfl, rfl, c1, c2⟩ := of_year (by omega) (by omega) y3 m1 m2 d1 d2
  have hrs := h.rest
  have hnum : num c y m D = c * 146097 + (Yd y + cum y m + D - 1) := by unfold num; omega
  obtain ⟨c', y', m', d', h', e', c1', c2'⟩ := vd_of (num c y m D + days) (by omega) (by omega)
  have hA := Add_sec (K := 1) (S := S) (N := 0) (z := 0) (sec := 86400 * days) (nano := 0) (hz := false) h (by omega) h' s1 (by omega) (by omega) (by omega) (by omega) (by omega) (by omega)
    (by rw [e', show (S + 86400 * days) / 86400 = days from by omega]) k (by omega)
  rw [show (S + 86400 * days) % 86400 = S from by omega, Int.add_zero] at hA
  have hB := Add_sec (K := 1) (S := S) (N := 0) (z := 0) (sec := -(86400 * days)) (nano := 0) (hz := false) h' (by omega) h s1 (by omega) (by omega) (by omega) (by omega) (by omega) (by omega)
    (by rw [e', show (S + -(86400 * days)) / 86400 = -days from by omega]; omega) k (by omega)
  rw [show (S + -(86400 * days)) % 86400 = S from by omega, Int.add_zero] at hB
  -- the months
  have hy0 := h.y0; have hy1 := h.y1; have hm := h.m1
  obtain ⟨L, hL⟩ : ∃ L, L = (12 * (2000 + 400 * c + y) + (m : Int) + mo) / 12 := ⟨_, rfl⟩
  obtain ⟨m'', hm''⟩ : ∃ q : Nat, (q : Int) = (12 * (2000 + 400 * c + y) + (m : Int) + mo) % 12 := ⟨((12 * (2000 + 400 * c + y) + (m : Int) + mo) % 12).toNat, by omega⟩
  have hr := mlen_range ((L - 2000) % 400) ((m'' : Int) + 1)
  have h2 : Vd ((L - 2000) / 400) ((L - 2000) % 400) m'' D := ⟨by omega, by omega, by omega, d1, by omega, by omega, by omega⟩
  have hC := Add_mo (K := 1) (S := S) (N := 0) (z := 0) (mo := mo) (hz := false) h h2 d2 s1 (by omega) (by omega) (by omega) (by omega) (by omega) (by omega) k (by omega)
  have hD := Add_mo (K := 1) (S := S) (N := 0) (z := 0) (mo := -mo) (hz := false) h2 h d2 s1 (by omega) (by omega) (by omega) (by omega) (by omega) (by omega) k (by omega)
  have e1 := h'.days ⟨by omega, by omega⟩ k (by omega)
  have e2 := h.days ⟨by omega, by omega⟩ k (by omega)
  have e3 := h2.days ⟨by omega, by omega⟩ k (by omega)
  have hYb : -10000000 ≤ Yr c y ∧ Yr c y ≤ 10000000 := by omega
  have e4 : date_Days.f k (Yr c y) ((m : Int) + 1 + mo) D = some (num ((L - 2000) / 400) ((L - 2000) % 400) m'' D) := by
    rw [Days_f (by omega) (by omega) (by omega) (by omega) (by omega) (by omega) (by omega) k (by omega)]
    rw [show ofY (Yr c y) = 2000 + 400 * c + y from by unfold Yr; rw [ofY_sdY]]
    rw [show 2000 + 400 * c + y + ((m : Int) + 1 + mo - 1) / 12 = 2000 + 400 * ((L - 2000) / 400) + (L - 2000) % 400 from by omega, show (((m : Int) + 1 + mo - 1) % 12).toNat = m'' from by omega, dn_at (by omega) (by omega)]
    rfl
  simp only [rubriclaw6_DateAdds.j0]
  rw [if_neg (by decide), w64 (x := 86400 * days) (by omega) (by omega), hA, Option.bind_some]
  dsimp only
  rw [w64 (x := -(86400 * days)) (by omega) (by omega), hB, Option.bind_some, hC, Option.bind_some]
  dsimp only
  rw [w64 (x := -mo) (by omega) (by omega), hD, Option.bind_some]
  dsimp only
  rw [if_pos (by simp), if_pos (by simp), if_pos rfl, e1, Option.bind_some, e2, Option.bind_some, w64 (x := num c y m D + days) (by omega) (by omega), if_pos e', if_pos rfl, if_pos rfl, e3, Option.bind_some,
    w64 (x := (m : Int) + 1 + mo) (by omega) (by omega), e4, Option.bind_some]
  simp
theorem DateAdds_t : rubriclaw6_DateAdds.Pure := by
  intro Y M D S days mo hY hM hD hS hd hm
  refine ⟨700, ?_⟩
  unfold rubriclaw6_DateAdds.f
  rw [known_k (by omega), Option.bind_some, if_pos rfl]
  have ht : ∀ b, b = true → rubriclaw6_DateAdds.j0 700 Y M D S days mo b = some true := fun b hb => by subst hb; simp [rubriclaw6_DateAdds.j0]
  by_cases c1 : Y < -9000
  · rw [if_pos c1]; exact ht _ rfl
  rw [if_neg c1]
  by_cases c2 : Y > 9000
  · rw [if_pos c2]; exact ht _ rfl
  rw [if_neg c2]
  by_cases c3 : Y = 0
  · rw [if_pos c3]; exact ht _ rfl
  rw [if_neg c3]
  by_cases c4 : M < 1
  · rw [if_pos c4]; exact ht _ rfl
  rw [if_neg c4]
  by_cases c5 : M > 12
  · rw [if_pos c5]; exact ht _ rfl
  rw [if_neg c5]
  by_cases c6 : D < 1
  · rw [if_pos c6]; exact ht _ rfl
  rw [if_neg c6]
  by_cases c7 : D > 28
  · rw [if_pos c7]; exact ht _ rfl
  rw [if_neg c7]
  by_cases c8 : S < 0
  · rw [if_pos c8]; exact ht _ rfl
  rw [if_neg c8]
  by_cases c9 : S > 86399
  · rw [if_pos c9]; exact ht _ rfl
  rw [if_neg c9]
  by_cases c10 : days < -1048576
  · rw [if_pos c10]; exact ht _ rfl
  rw [if_neg c10]
  by_cases c11 : days > 1048576
  · rw [if_pos c11]; exact ht _ rfl
  rw [if_neg c11]
  by_cases c12 : mo < -16384
  · rw [if_pos c12]; exact ht _ rfl
  rw [if_neg c12]
  by_cases c13 : mo > 16384
  · exact ht _ (decide_eq_true c13)
  · rw [decide_eq_false c13]
    exact adds_j0 (by omega) (by omega) c3 (by omega) (by omega) (by omega) (by omega) (by omega) (by omega) (by omega) (by omega) (by omega) (by omega) 699 (by omega)

end Go.Proofs.YtehaonhgbmlmnaaDoor.B
