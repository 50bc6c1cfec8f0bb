import Derived.Test.YtnafjabpkbahdaaDoorB14
import Derived.Test.YtnafjabpkbahdaaDoorPrx7
import Derived.KernelRfl
namespace Go.Proofs.YtnafjabpkbahdaaDoor.B
open Go.RowKit Go.Proofs.YtnafjabpkbahdaaDoor Go.Proofs.YtnafjabpkbahdaaDoor.G Go.Proofs.YtnafjabpkbahdaaDoor.Pr Go.Proofs.YtnafjabpkbahdaaDoorW.PrintWords Go.Proofs.YtnafjabpkbahdaaDoorW.PrintLast
set_option linter.unusedVariables false
set_option linter.unusedSimpArgs false
/-! ### DecSums -/
theorem can0 : Can false [0] 0 := ⟨by intro x hx; rw [List.mem_singleton.mp hx]; omega, by decide, fun h => absurd h (by decide), fun h => absurd h (by decide), fun h => by cases h⟩
theorem sums_j4 {an bn : Bool} {al bl : List Int} {as_ bs : Nat} (Ca : Can an al as_) (Cb : Can bn bl bs) (la : al.length ≤ 601) (lb : bl.length ≤ 601) : Ev (fun k => rubriclaw5_DecSums.j4 k false an al (as_ : Int) bn bl (bs : Int)) true := by
  have ha := Ca.lt; have hb := Cb.lt
  obtain ⟨cn, cl, cs, hc, Cc, vc, sc, lc⟩ := add_ev 4000 Ca Cb (by omega) (by omega) (by omega)
  have hcl := Cc.lt
  obtain ⟨un, eu, Cu, vu⟩ := neg_eq 4000 Cb (by omega)
  obtain ⟨dn, dl, ds, hd, Cd, vd, sd, ld⟩ := add_ev 4000 Cc Cu (by omega) (by omega) (by omega)
  obtain ⟨hn, eh, Ch, vh⟩ := neg_eq 4000 Ca (by omega)
  obtain ⟨zn, zl, zs, hz, Cz, vz, sz, lz⟩ := add_ev 4000 Ca Ch (by omega) (by omega) (by omega)
  obtain ⟨jn, ej, Cj, vj⟩ := neg_eq 4000 Ch (by omega)
  have k1 := cmp_ev 4000 Cd Ca (by omega) (by omega) (by omega) (by omega)
  have k2 := cmp_ev 4000 Cj Ca (by omega) (by omega) (by omega) (by omega)
  rw [show vl 4000 dn dl ds - vl 4000 an al as_ = 0 from by rw [vd, vc, vu]; omega, sg_zero] at k1
  rw [show vl 4000 jn al as_ - vl 4000 an al as_ = 0 from by rw [vj, vh]; omega, sg_zero] at k2
  have v0 : vl 4000 zn zl zs = vl 4000 false [0] 0 := by
    rw [vz, vh]
    have : vl 4000 false [0] 0 = 0 := by unfold vl mag; rw [if_neg (by simp), show rv ([0] : List Int).reverse = 0 from rfl, Int.mul_zero]
    rw [this]; omega
  obtain ⟨rfl, rfl, rfl⟩ := vl_inj Cz can0 (by omega) (by omega) v0
  have ht : dec_Dec_Text.f false [0] 0 = some (⟨#[48]⟩ : ByteArray) := by kernel_rfl
  obtain ⟨K1, hc⟩ := hc; obtain ⟨K2, hd⟩ := hd; obtain ⟨K3, hz⟩ := hz; obtain ⟨K4, k1⟩ := k1; obtain ⟨K5, k2⟩ := k2
  refine ⟨K1 + K2 + K3 + K4 + K5 + 1, fun k hk => ?_⟩
  obtain ⟨k, rfl⟩ : ∃ q, k = q + 1 := ⟨k - 1, by omega⟩
  have c1 : dec_Add.f k an al (as_ : Int) bn bl (bs : Int) = some (cn, cl, (cs : Int), 0) := hc k (by omega)
  have c2 : dec_Add.f k cn cl (cs : Int) un bl (bs : Int) = some (dn, dl, (ds : Int), 0) := hd k (by omega)
  have c3 : dec_Add.f k an al (as_ : Int) hn al (as_ : Int) = some (false, [0], ((0 : Nat) : Int), 0) := hz k (by omega)
  have c4 : dec_Cmp.f k dn dl (ds : Int) an al (as_ : Int) = some 0 := k1 k (by omega)
  have c5 : dec_Cmp.f k jn al (as_ : Int) an al (as_ : Int) = some 0 := k2 k (by omega)
  show rubriclaw5_DecSums.j4 (k + 1) false an al (as_ : Int) bn bl (bs : Int) = some true
  simp only [rubriclaw5_DecSums.j4]
  rw [if_neg (by simp), c1, Option.bind_some, eu, Option.bind_some]
  dsimp only
  rw [c2, Option.bind_some, eh, Option.bind_some]
  dsimp only
  rw [c3, Option.bind_some]
  dsimp only
  rw [if_pos (by first | (simp [wrap64]; done) | (unfold wrap64; omega)), c4, Option.bind_some, if_pos rfl, show (((0 : Nat) : Int)) = 0 from rfl, ht, Option.bind_some, if_pos (by rw [toList_lst]; rfl), Option.bind_some]
  dsimp only
  rw [ej, Option.bind_some]
  dsimp only
  rw [c5, Option.bind_some, if_pos rfl]
theorem sums_j3 (a0 a1 : ByteArray) (h0 : a0.size ≤ 600) (h1 : a1.size ≤ 600) : Ev (fun k => rubriclaw5_DecSums.j3 k a0 a1) true := by
  obtain ⟨an, al, as_, e, hP, p1, p2, p3⟩ := parse_any a0 (by omega)
  obtain ⟨bn, bl, bs, f, hQ, q1, q2, q3⟩ := parse_any a1 (by omega)
  obtain ⟨K1, hP⟩ := hP; obtain ⟨K2, hQ⟩ := hQ
  by_cases he : e = 0 ∧ f = 0
  · obtain ⟨he, hf⟩ := he
    obtain ⟨Ca, la⟩ := p3 he
    obtain ⟨Cb, lb⟩ := q3 hf
    obtain ⟨K3, hj⟩ := sums_j4 Ca Cb (by omega) (by omega)
    refine ⟨K1 + K2 + K3 + 1, fun k hk => ?_⟩
    obtain ⟨k, rfl⟩ : ∃ q, k = q + 1 := ⟨k - 1, by omega⟩
    have c1 : dec_Parse.f k a0 = some (an, al, (as_ : Int), e) := hP k (by omega)
    have c2 : dec_Parse.f k a1 = some (bn, bl, (bs : Int), f) := hQ k (by omega)
    have c3 : rubriclaw5_DecSums.j4 k false an al (as_ : Int) bn bl (bs : Int) = some true := hj k (by omega)
    show rubriclaw5_DecSums.j3 (k + 1) a0 a1 = some true
    simp only [rubriclaw5_DecSums.j3]
    rw [c1, Option.bind_some, c2, Option.bind_some]
    dsimp only
    rw [if_pos he, hf]
    exact c3
  · refine ⟨K1 + K2 + 2, fun k hk => ?_⟩
    obtain ⟨k, rfl⟩ : ∃ q, k = q + 1 + 1 := ⟨k - 2, by omega⟩
    have c1 : dec_Parse.f (k + 1) a0 = some (an, al, (as_ : Int), e) := hP (k + 1) (by omega)
    have c2 : dec_Parse.f (k + 1) a1 = some (bn, bl, (bs : Int), f) := hQ (k + 1) (by omega)
    show rubriclaw5_DecSums.j3 (k + 1 + 1) a0 a1 = some true
    rw [rubriclaw5_DecSums.j3]
    rw [c1, Option.bind_some, c2, Option.bind_some]
    dsimp only
    by_cases h : e = 0
    · rw [if_pos h, show (f != 0) = true from by simp; omega]
      rw [rubriclaw5_DecSums.j4, if_pos rfl]
    · rw [if_neg h]
      rw [rubriclaw5_DecSums.j4, if_pos rfl]
theorem sums_j2 (a0 a1 : ByteArray) (h0 : a0.size ≤ 600) (h1 : a1.size ≤ 600) (n m : Int) (b : Bool) (hb : b = true → -9223372036854775808 ≤ n + m ∧ n + m ≤ 9223372036854775807) {pn qn : Bool} {pl ql : List Int} (Cp : Can pn pl 0) (Cq : Can qn ql 0) (lp : pl.length ≤ 21) (lq : ql.length ≤ 21)
    (vp : vl 0 pn pl 0 = n * 10 ^ 0) (vq : vl 0 qn ql 0 = m * 10 ^ 0) : Ev (fun k => rubriclaw5_DecSums.j2 k a0 a1 n m b pn pl 0 qn ql 0) true := by
  obtain ⟨K0, h3⟩ := sums_j3 a0 a1 h0 h1
  cases b with
  | false =>
    refine ⟨K0 + 1, fun k hk => ?_⟩
    obtain ⟨k, rfl⟩ : ∃ q, k = q + 1 := ⟨k - 1, by omega⟩
    show rubriclaw5_DecSums.j2 (k + 1) a0 a1 n m false pn pl 0 qn ql 0 = some true
    simp only [rubriclaw5_DecSums.j2]
    rw [if_neg (by simp)]
    exact h3 k (by omega)
  | true =>
    obtain ⟨hb1, hb2⟩ := hb rfl
    obtain ⟨xn, xl, xs, hx, Cx, vx, sx, lx⟩ := add_ev 0 Cp Cq (by omega) (by omega) (by omega)
    obtain ⟨yn, yl, ey, _, Cy, vy, ly⟩ := int_f 0 (n + m) hb1 hb2
    have k1 := cmp_ev 0 Cx Cy (by omega) (by omega) (by omega) (by omega)
    rw [show vl 0 xn xl xs - vl 0 yn yl 0 = 0 from by rw [vx, vp, vq, vy, Int.add_mul]; omega, sg_zero] at k1
    obtain ⟨K1, hx⟩ := hx; obtain ⟨K2, k1⟩ := k1
    refine ⟨K0 + K1 + K2 + 1, fun k hk => ?_⟩
    obtain ⟨k, rfl⟩ : ∃ q, k = q + 1 := ⟨k - 1, by omega⟩
    have c1 : dec_Add.f k pn pl 0 qn ql 0 = some (xn, xl, (xs : Int), 0) := hx k (by omega)
    have c2 : dec_Cmp.f k xn xl (xs : Int) yn yl 0 = some 0 := k1 k (by omega)
    show rubriclaw5_DecSums.j2 (k + 1) a0 a1 n m true pn pl 0 qn ql 0 = some true
    simp only [rubriclaw5_DecSums.j2, if_true]
    rw [c1, Option.bind_some]
    dsimp only
    rw [if_pos rfl, w64 hb1 hb2, ey, Option.bind_some]
    dsimp only
    rw [c2, Option.bind_some, if_pos rfl]
    exact h3 k (by omega)

theorem sg_iff (x y : Int) : decide (sg (x - y) < 0) = decide (x < y) ∧ (sg (x - y) == 0) = (x == y) := by
  unfold sg
  by_cases h1 : x < y
  · rw [if_pos (by omega)]
    have : ¬ x = y := by omega
    simp [h1, this]
  · rw [if_neg (by omega)]
    by_cases h2 : y < x
    · rw [if_pos (by omega)]
      have : ¬ x = y := by omega
      simp [h1, this]
    · rw [if_neg (by omega)]
      have : x = y := by omega
      simp [this]
theorem sums_j0 (a0 a1 : ByteArray) (n m : Int) (h0 : a0.size ≤ 600) (h1 : a1.size ≤ 600) (n1 : -9223372036854775808 ≤ n) (n2 : n ≤ 9223372036854775807) (m1 : -9223372036854775808 ≤ m) (m2 : m ≤ 9223372036854775807) : Ev (fun k => rubriclaw5_DecSums.j0 k a0 a1 n m false) true := by
  obtain ⟨pn, pl, ep, dp, Cp, vp, lp⟩ := int_f 0 n n1 n2
  obtain ⟨qn, ql, eq_, dq, Cq, vq, lq⟩ := int_f 0 m m1 m2
  obtain ⟨K1, hr⟩ := rint_ev n n1 n2 dp
  have k1 := cmp_ev 0 Cp Cq (by omega) (by omega) (by omega) (by omega)
  rw [show vl 0 pn pl 0 - vl 0 qn ql 0 = n - m from by rw [vp, vq]; omega] at k1
  obtain ⟨K2, k1⟩ := k1
  have hs := sg_iff n m
  have hw : dec_Dec_Whole.f pn pl 0 = some true := rfl
  obtain ⟨K4, hf⟩ := sums_j2 a0 a1 h0 h1 n m false (by simp) Cp Cq lp lq vp vq
  obtain ⟨K3, ht⟩ : Ev (fun k => rubriclaw5_DecSums.j2 k a0 a1 n m (decide (-1099511627776 < n ∧ n < 1099511627776 ∧ -1099511627776 < m ∧ m < 1099511627776)) pn pl 0 qn ql 0) true := sums_j2 a0 a1 h0 h1 n m _ (fun hb => by have := of_decide_eq_true hb; exact ⟨by omega, by omega⟩) Cp Cq lp lq vp vq
  refine ⟨K1 + K2 + K3 + K4 + 3, fun k hk => ?_⟩
  obtain ⟨k, rfl⟩ : ∃ q, k = q + 1 + 1 := ⟨k - 2, by omega⟩
  have c1 : rubricref5_Int.f (k + 1) n = some (pn, pl, 0) := hr (k + 1) (by omega)
  have c2 : dec_Cmp.f (k + 1) pn pl 0 qn ql 0 = some (sg (n - m)) := k1 (k + 1) (by omega)
  show rubriclaw5_DecSums.j0 (k + 1 + 1) a0 a1 n m false = some true
  rw [rubriclaw5_DecSums.j0]
  rw [if_neg (by simp), ep, Option.bind_some, eq_, Option.bind_some, c1, Option.bind_some]
  dsimp only
  rw [same_eq, Option.bind_some, if_pos rfl, hw, Option.bind_some, if_pos rfl, c2, Option.bind_some, hs.1, if_neg (by simp), Option.bind_some, hs.2, show ((n == m) != (n == m)) = false from by simp]
  rw [rubriclaw5_DecSums.j1, if_neg (by simp)]
  have f2 : rubriclaw5_DecSums.j2 k a0 a1 n m false pn pl 0 qn ql 0 = some true := hf k (by omega)
  have t2 : rubriclaw5_DecSums.j2 k a0 a1 n m (decide (-1099511627776 < n ∧ n < 1099511627776 ∧ -1099511627776 < m ∧ m < 1099511627776)) pn pl 0 qn ql 0 = some true := ht k (by omega)
  by_cases g1 : n > -1099511627776
  · rw [if_pos g1]
    by_cases g2 : n < 1099511627776
    · rw [if_pos g2]
      by_cases g3 : m > -1099511627776
      · rw [if_pos g3, show decide (m < 1099511627776) = decide (-1099511627776 < n ∧ n < 1099511627776 ∧ -1099511627776 < m ∧ m < 1099511627776) from by
          by_cases g4 : m < 1099511627776
          · rw [decide_eq_true g4, decide_eq_true ⟨g1, g2, g3, g4⟩]
          · rw [decide_eq_false g4, decide_eq_false (fun h => g4 h.2.2.2)]]
        exact t2
      · rw [if_neg g3]; exact f2
    · rw [if_neg g2]; exact f2
  · rw [if_neg g1]; exact f2
theorem DecSums_t : rubriclaw5_DecSums.Pure := by
  intro a0 a1 n m w0 w1 w2 w3
  have hn : -9223372036854775808 ≤ n ∧ n ≤ 9223372036854775807 := by simpa [Lit.wf, IntKind.min, IntKind.max, IntKind.bits, IntKind.signed] using w2
  have hm : -9223372036854775808 ≤ m ∧ m ≤ 9223372036854775807 := by simpa [Lit.wf, IntKind.min, IntKind.max, IntKind.bits, IntKind.signed] using w3
  obtain ⟨K1, hk⟩ := known_ev
  have jt : ∀ k, rubriclaw5_DecSums.j0 (k + 1) a0 a1 n m true = some true := by intro k; rw [rubriclaw5_DecSums.j0, if_pos rfl]
  by_cases h0 : (a0.size : Int) > 600
  · refine ⟨K1 + 1, ?_⟩
    unfold rubriclaw5_DecSums.f
    rw [show rubriclaw5_known.f (K1 + 1) = some true from hk (K1 + 1) (by omega), Option.bind_some, if_pos rfl, if_pos h0]
    exact jt K1
  · by_cases h1 : (a1.size : Int) > 600
    · refine ⟨K1 + 1, ?_⟩
      unfold rubriclaw5_DecSums.f
      rw [show rubriclaw5_known.f (K1 + 1) = some true from hk (K1 + 1) (by omega), Option.bind_some, if_pos rfl, if_neg h0, decide_eq_true h1]
      exact jt K1
    · obtain ⟨K2, hj⟩ := sums_j0 a0 a1 n m (by omega) (by omega) hn.1 hn.2 hm.1 hm.2
      refine ⟨K1 + K2, ?_⟩
      unfold rubriclaw5_DecSums.f
      rw [show rubriclaw5_known.f (K1 + K2) = some true from hk (K1 + K2) (by omega), Option.bind_some, if_pos rfl, if_neg h0, decide_eq_false h1]
      exact hj (K1 + K2) (by omega)

end Go.Proofs.YtnafjabpkbahdaaDoor.B
