import Derived.Test.YtehaonhgbmlmnaaDoorB7
import Derived.Test.YtehaonhgbmlmnaaDoorPrx12
namespace Go.Proofs.YtehaonhgbmlmnaaDoor.B
open Go.RowKit Go.Proofs.YtehaonhgbmlmnaaDoor Go.Proofs.YtehaonhgbmlmnaaDoor.G Go.Proofs.YtehaonhgbmlmnaaDoor.Pr Go.Proofs.YtehaonhgbmlmnaaDoorW.PrintWords Go.Proofs.YtehaonhgbmlmnaaDoorW.PrintLast
set_option linter.unusedVariables false
set_option linter.unusedSimpArgs false
theorem ng_neg {c : Int} (h : c = -1 ∨ c = 1 ∨ c = 2) : (c = 2 → ng c = 2) ∧ (c ≠ 2 → ng c = -c) := by
  rcases h with rfl | rfl | rfl <;> decide
theorem mix_of (A an B bn : Int) : mix A an B bn = -1 ∨ mix A an B bn = 1 ∨ mix A an B bn = 2 := by
  unfold mix
  have hx := cO_of (A - 50400) an B bn
  have hy := cO_of (A + 50400) an B bn
  generalize cO (A - 50400) an B bn = x at hx ⊢
  generalize cO (A + 50400) an B bn = y at hy ⊢
  rcases hx with rfl | rfl | rfl <;> rcases hy with rfl | rfl | rfl <;> decide
theorem cO_self (a an : Int) : cO a an a an = 0 := by
  unfold cO
  rw [if_neg (by omega), if_pos ⟨rfl, rfl⟩]
theorem cO_trans {a an b bn c cn : Int} (h1 : cO a an b bn = -1) (h2 : cO b bn c cn = -1) : cO a an c cn = -1 := by
  unfold cO at *
  have g1 : a < b ∨ a = b ∧ an < bn := by
    by_cases h : a < b ∨ a = b ∧ an < bn
    · exact h
    · rw [if_neg h] at h1; split at h1 <;> simp at h1
  have g2 : b < c ∨ b = c ∧ bn < cn := by
    by_cases h : b < c ∨ b = c ∧ bn < cn
    · exact h
    · rw [if_neg h] at h2; split at h2 <;> simp at h2
  rw [if_pos (by omega)]
theorem cP_self (A an : Int) (ha : Bool) (za : Int) : cP A an ha za A an ha za = 0 := by
  unfold cP
  rw [if_pos (by simp), cO_self]
/-- The order turned with the sides. -/
theorem cP_sw (A an : Int) (ha : Bool) (za : Int) (B bn : Int) (hb : Bool) (zb : Int) :
    (cP A an ha za B bn hb zb = 2 → cP B bn hb zb A an ha za = 2) ∧ (cP A an ha za B bn hb zb ≠ 2 → cP B bn hb zb A an ha za = -cP A an ha za B bn hb zb) ∧ -1 ≤ cP A an ha za B bn hb zb ∧ cP A an ha za B bn hb zb ≤ 2 := by
  unfold cP
  by_cases h : ha = hb
  · subst h
    rw [if_pos (by simp), if_pos (by simp), cO_sw (A - 60 * za) an (B - 60 * zb) bn]
    have hx := cO_of (A - 60 * za) an (B - 60 * zb) bn
    generalize cO (A - 60 * za) an (B - 60 * zb) bn = x at hx ⊢
    rcases hx with rfl | rfl | rfl <;> decide
  · cases ha <;> cases hb
    · exact absurd rfl h
    · simp only [Bool.false_eq_true, if_false, if_true, show (false == true) = false from rfl, show (true == false) = false from rfl]
      have hm := mix_of A an (B - 60 * zb) bn
      generalize mix A an (B - 60 * zb) bn = x at hm ⊢
      rcases hm with rfl | rfl | rfl <;> decide
    · simp only [Bool.false_eq_true, if_false, if_true, show (false == true) = false from rfl, show (true == false) = false from rfl]
      have hm := mix_of B bn (A - 60 * za) an
      generalize mix B bn (A - 60 * za) an = x at hm ⊢
      rcases hm with rfl | rfl | rfl <;> decide
    · exact absurd rfl h
theorem cP_trans {A an : Int} {ha : Bool} {za B bn : Int} {hb : Bool} {zb C cn : Int} {hc : Bool} {zc : Int} (e1 : ha = hb) (e2 : hb = hc) (h1 : cP A an ha za B bn hb zb = -1) (h2 : cP B bn hb zb C cn hc zc = -1) : cP A an ha za C cn hc zc = -1 := by
  subst e1 e2
  unfold cP at *
  rw [if_pos (by simp)] at *
  exact cO_trans h1 h2
theorem orders_j2 {K Y M D S N z Y' M' D' S' N' z' Y'' M'' D'' S'' N'' z'' : Int} {hz hz' hz'' : Bool} (h : Mok K Y M D S N hz z) (h' : Mok K Y' M' D' S' N' hz' z') (h'' : Mok K Y'' M'' D'' S'' N'' hz'' z'') (k : Nat) (hk : 60 ≤ k) :
    rubriclaw6_DateOrders.j2 k (cP (l0 Y M D S) N hz z (l0 Y' M' D' S') N' hz' z') (cP (l0 Y' M' D' S') N' hz' z' (l0 Y M D S) N hz z) (cP (l0 Y' M' D' S') N' hz' z' (l0 Y'' M'' D'' S'') N'' hz'' z'') false K Y M D S N hz z K Y' M' D' S' N' hz' z' K Y'' M'' D'' S'' N'' hz'' z'' = some true := by
  obtain ⟨k, rfl⟩ : ∃ q, k = q + 1 := ⟨k - 1, by omega⟩
  have hsw := cP_sw (l0 Y M D S) N hz z (l0 Y' M' D' S') N' hz' z'
  have htr := @cP_trans (l0 Y M D S) N hz z (l0 Y' M' D' S') N' hz' z' (l0 Y'' M'' D'' S'') N'' hz'' z''
  have hcm := Cmp_f h h'' k (by omega)
  simp only [rubriclaw6_DateOrders.j2]
  rw [hcm]
  generalize cP (l0 Y M D S) N hz z (l0 Y' M' D' S') N' hz' z' = x at hsw htr ⊢
  generalize cP (l0 Y' M' D' S') N' hz' z' (l0 Y M D S) N hz z = y at hsw ⊢
  generalize cP (l0 Y' M' D' S') N' hz' z' (l0 Y'' M'' D'' S'') N'' hz'' z'' = v at htr ⊢
  generalize cP (l0 Y M D S) N hz z (l0 Y'' M'' D'' S'') N'' hz'' z'' = u at htr ⊢
  rw [if_neg (by simp), Option.bind_some]
  by_cases hx : x = 2
  · rw [if_pos hx, if_pos (hsw.1 hx), if_neg (by omega)]
  · rw [if_neg hx, w64 (by omega) (by omega), if_pos (hsw.2.1 hx)]
    by_cases h1 : x = -1
    · rw [if_pos h1]
      by_cases h2 : v = -1
      · rw [if_pos h2]
        by_cases e1 : (hz != hz') = true
        · rw [if_pos e1]
        · rw [if_neg e1]
          by_cases e2 : (hz' != hz'') = true
          · rw [if_pos e2]
          · rw [if_neg e2, htr (by simpa using e1) (by simpa using e2) h1 h2]; rfl
      · rw [if_neg h2]
    · rw [if_neg h1]
theorem orders_j1 {K Y M D S N z Y' M' D' S' N' z' Y'' M'' D'' S'' N'' z'' : Int} {hz hz' hz'' : Bool} (h : Mok K Y M D S N hz z) (h' : Mok K Y' M' D' S' N' hz' z') (h'' : Mok K Y'' M'' D'' S'' N'' hz'' z'') (k : Nat) (hk : 100 ≤ k) :
    rubriclaw6_DateOrders.j1 k false K Y M D S N hz z K Y' M' D' S' N' hz' z' K Y'' M'' D'' S'' N'' hz'' z'' = some true := by
  obtain ⟨k, rfl⟩ : ∃ q, k = q + 1 := ⟨k - 1, by omega⟩
  simp only [rubriclaw6_DateOrders.j1]
  rw [if_neg (by simp), Cmp_f h h' k (by omega), Option.bind_some, Cmp_f h' h k (by omega), Option.bind_some, Cmp_f h' h'' k (by omega), Option.bind_some, rCmp_f h h' k (by omega), Option.bind_some, if_pos rfl,
    rCmp_f h' h'' k (by omega), Option.bind_some, if_pos rfl, Cmp_f h h k (by omega), Option.bind_some, cP_self, show ((0 : Int) != 0) = false from rfl]
  exact orders_j2 h h' h'' k (by omega)
theorem orders_j0 {a0 : Int} {a1 a2 a3 : ByteArray} (h1 : a1.size ≤ 200) (h2 : a2.size ≤ 200) (h3 : a3.size ≤ 200) (k : Nat) (hk : 600 ≤ k) : rubriclaw6_DateOrders.j0 k a0 a1 a2 a3 false = some true := by
  obtain ⟨k, rfl⟩ : ∃ q, k = q + 1 := ⟨k - 1, by omega⟩
  obtain ⟨Y, M, D, S, N, hz, z, e, hA⟩ := parse_ok k (by omega) a0 a1 (by omega)
  obtain ⟨Y', M', D', S', N', hz', z', e', hB⟩ := parse_ok k (by omega) a0 a2 (by omega)
  obtain ⟨Y'', M'', D'', S'', N'', hz'', z'', e'', hC⟩ := parse_ok k (by omega) a0 a3 (by omega)
  have jt : ∀ {x0 x1 x2 x3 x4 x5 x7 y0 y1 y2 y3 y4 y5 y7 v0 v1 v2 v3 v4 v5 v7 : Int} {x6 y6 v6 : Bool}, rubriclaw6_DateOrders.j1 k true x0 x1 x2 x3 x4 x5 x6 x7 y0 y1 y2 y3 y4 y5 y6 y7 v0 v1 v2 v3 v4 v5 v6 v7 = some true := by
    intros
    obtain ⟨k, rfl⟩ : ∃ q, k = q + 1 := ⟨k - 1, by omega⟩
    simp only [rubriclaw6_DateOrders.j1, if_true]
  simp only [rubriclaw6_DateOrders.j0]
  rw [if_neg (by simp)]
  rcases hA with ⟨eA, nA, _⟩ | ⟨eA, nA, mA⟩ <;> rcases hB with ⟨eB, nB, _⟩ | ⟨eB, nB, mB⟩ <;> rcases hC with ⟨eC, nC, _⟩ | ⟨eC, nC, mC⟩ <;> rw [eA, Option.bind_some, eB, Option.bind_some, eC, Option.bind_some]
  all_goals simp only []
  case inr.inr.inr => rw [if_pos nA, if_pos nB, nC]; exact orders_j1 mA mB mC k (by omega)
  case inr.inr.inl => rw [if_pos nA, if_pos nB, show (e'' != 0) = true from by simpa using nC]; exact jt
  case inr.inl.inr => rw [if_pos nA, if_neg nB]; exact jt
  case inr.inl.inl => rw [if_pos nA, if_neg nB]; exact jt
  all_goals rw [if_neg nA]; exact jt
theorem DateOrders_t : rubriclaw6_DateOrders.Pure := by
  intro a0 a1 a2 a3 w0 w1 w2 w3
  refine ⟨1000, ?_⟩
  have jt : rubriclaw6_DateOrders.j0 1000 a0 a1 a2 a3 true = some true := by simp only [rubriclaw6_DateOrders.j0, if_true]
  unfold rubriclaw6_DateOrders.f
  rw [known_k (by decide), Option.bind_some, if_pos rfl]
  by_cases h1 : (a1.size : Int) > 200
  · rw [if_pos h1]; exact jt
  rw [if_neg h1]
  by_cases h2 : (a2.size : Int) > 200
  · rw [if_pos h2]; exact jt
  rw [if_neg h2]
  by_cases h3 : (a3.size : Int) > 200
  · rw [decide_eq_true h3]; exact jt
  rw [decide_eq_false h3]
  exact orders_j0 (by omega) (by omega) (by omega) 1000 (by decide)

end Go.Proofs.YtehaonhgbmlmnaaDoor.B
