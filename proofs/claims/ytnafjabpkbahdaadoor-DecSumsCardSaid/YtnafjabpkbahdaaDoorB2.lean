import Derived.Test.YtnafjabpkbahdaaDoorB1
import Derived.Test.YtnafjabpkbahdaaDoorPrx3
namespace Go.Proofs.YtnafjabpkbahdaaDoor.B
open Go.RowKit Go.Proofs.YtnafjabpkbahdaaDoor Go.Proofs.YtnafjabpkbahdaaDoor.G Go.Proofs.YtnafjabpkbahdaaDoor.Pr Go.Proofs.YtnafjabpkbahdaaDoorW.PrintWords Go.Proofs.YtnafjabpkbahdaaDoorW.PrintLast
set_option linter.unusedVariables false
set_option linter.unusedSimpArgs false
theorem add_l0 (n n' : Bool) {l m : List Int} {s t S : Nat} (h : Bd l s) (h' : Bd m t) (h1 : s ≤ S) (h2 : t ≤ S) (hS : S ≤ 1048576) (sgn : Int) (hsg : sgn = 1 ∨ sgn = -1) (hi : Int) (Q : Nat) (hQ : (Q : Int) = hi + S + 2) (hQ2 : Q ≤ 2097152)
    (htot : 0 ≤ mag S l s + sgn * mag S m t) (hla : (dgs S l s).length < Q) (hlb : (dgs S m t).length < Q) :
    ∀ (d k : Nat) (row : List Int) (c : Int) (q : Nat), q + d = Q → d < k → row.length = Q → Dg (row.drop d) → (c = 0 ∨ c = 1 ∨ c = -1) →
      rv (row.drop d).reverse + c * 10 ^ q = rv ((dgs S l s).take q) + sgn * rv ((dgs S m t).take q) →
      ∃ row' : List Int, Dg row' ∧ row'.length = Q ∧ rv row'.reverse = mag S l s + sgn * mag S m t ∧
        dec_Add.l0 k sgn hi (-(S : Int)) row c ((q : Int) - S) n l s n' m t = (dec_canon.f n row' (S : Int)).bind fun bt => (if (bt.2.1.length : Int) > 4096 then (some (false, ([] : List Int), 0, 3)) else (some (bt.1, bt.2.1, bt.2.2, 0)))
  | 0, k, row, c, q, hq, hk, hr, hd, hc, hv => by
    obtain ⟨k, rfl⟩ : ∃ j, k = j + 1 := ⟨k - 1, by omega⟩
    rw [List.drop_zero] at hd hv
    obtain rfl : q = Q := by omega
    rw [List.take_of_length_le (by omega), List.take_of_length_le (by omega), rv_dgs, rv_dgs] at hv
    have b1 := rv_lt (Dg_reverse.2 hd)
    have b2 := rv_nonneg (Dg_reverse.2 hd)
    have b3 := rv_lt (Dg_dgs (S := S) (s := s) h.dg)
    have b4 := rv_lt (Dg_dgs (S := S) (s := t) h'.dg)
    have b5 : (10 : Int) ^ (dgs S l s).length ≤ 10 ^ (q - 1) := ten_le (by omega)
    have b6 : (10 : Int) ^ (dgs S m t).length ≤ 10 ^ (q - 1) := ten_le (by omega)
    have b7 : (10 : Int) ^ q = 10 * 10 ^ (q - 1) := by rw [← ten_succ]; congr 1; omega
    have b8 := ten_pos (q - 1)
    have b9 := mag_nonneg (S := S) (s := t) h'.dg
    rw [rv_dgs] at b3 b4
    rw [List.length_reverse, hr] at b1
    have hc0 : c = 0 := by
      rcases hc with hc | hc | hc
      · exact hc
      · exfalso
        subst hc
        rcases hsg with rfl | rfl <;> omega
      · exfalso
        subst hc
        rcases hsg with rfl | rfl <;> omega
    subst hc0
    refine ⟨row, hd, hr, by rw [← hv]; simp, ?_⟩
    simp only [dec_Add.l0]
    rw [if_neg (by rw [w64 (by omega) (by omega)]; omega), show -(-(S : Int)) = (S : Int) by omega, w64 (by omega) (by omega)]
  | d + 1, k, row, c, q, hq, hk, hr, hd, hc, hv => by
    obtain ⟨k, rfl⟩ : ∃ j, k = j + 1 := ⟨k - 1, by omega⟩
    have ga := Dg_getD (Dg_dgs (S := S) (s := s) h.dg) q
    have gb := Dg_getD (Dg_dgs (S := S) (s := t) h'.dg) q
    have hna := rv_take_succ (dgs S l s) q
    have hnb := rv_take_succ (dgs S m t) q
    have key : ∀ (v c' : Int), 0 ≤ v → v ≤ 9 → (c' = 0 ∨ c' = 1 ∨ c' = -1) → v = (dgs S l s).getD q 0 + sgn * (dgs S m t).getD q 0 + c - 10 * c' →
        ∃ row' : List Int, Dg row' ∧ row'.length = Q ∧ rv row'.reverse = mag S l s + sgn * mag S m t ∧
        dec_Add.l0 k sgn hi (-(S : Int)) (row.set d v) c' (((q + 1 : Nat) : Int) - S) n l s n' m t = (dec_canon.f n row' (S : Int)).bind fun bt => (if (bt.2.1.length : Int) > 4096 then (some (false, ([] : List Int), 0, 3)) else (some (bt.1, bt.2.1, bt.2.2, 0))) := by
      intro v c' hv0 hv9 hc' hve
      have e : (row.set d v).drop d = v :: row.drop (d + 1) := by
        rw [List.drop_eq_getElem_cons (by simp; omega)]
        congr 1
        · simp
        · rw [List.drop_set_of_lt (by omega)]
      refine add_l0 n n' h h' h1 h2 hS sgn hsg hi Q hQ hQ2 htot hla hlb d k (row.set d v) c' (q + 1) (by omega) (by omega) (by simpa using hr) ?_ hc' ?_
      · rw [e]
        exact Dg_cons.2 ⟨⟨hv0, hv9⟩, hd⟩
      · rw [e, List.reverse_cons, rv_append, hna, hnb, ten_succ, List.length_reverse, List.length_drop, hr, show Q - (d + 1) = q by omega]
        simp only [rv]
        subst hve
        grind
    simp only [dec_Add.l0]
    rw [w64 (x := hi + 1) (by omega) (by omega), if_pos (by omega), at_eq n h h1 hS q (by omega) _ rfl, at_eq n' h' h2 hS q (by omega) _ rfl]
    simp only [Option.bind_some]
    generalize (dgs S l s).getD q 0 = a at *
    generalize (dgs S m t).getD q 0 = b at *
    have hsb : wrap64 (sgn * b) = sgn * b := w64 (by rcases hsg with rfl | rfl <;> omega) (by rcases hsg with rfl | rfl <;> omega)
    have hbb : -9 ≤ sgn * b ∧ sgn * b ≤ 9 := by rcases hsg with rfl | rfl <;> omega
    have hcc : -1 ≤ c ∧ c ≤ 1 := by omega
    have hqe : ((q : Int) - S + 1) = ((q + 1 : Nat) : Int) - S := by omega
    rw [hsb, w64 (x := a + sgn * b) (by omega) (by omega), w64 (x := a + sgn * b + c) (by omega) (by omega), w64 (x := hi + 1 - ((q : Int) - S)) (by omega) (by omega), show hi + 1 - ((q : Int) - S) = (d : Int) by omega, Int.toNat_natCast, w64 (x := (q : Int) - S + 1) (by omega) (by omega), hqe]
    by_cases g1 : a + sgn * b + c < 0
    · rw [if_pos g1, w64 (x := a + sgn * b + c + 10) (by omega) (by omega), if_neg (by omega), if_pos (by omega), if_pos (by omega), Int.emod_eq_of_lt (by omega) (by omega)]
      exact key _ (-1) (by omega) (by omega) (by omega) (by omega)
    · rw [if_neg g1]
      by_cases g2 : a + sgn * b + c > 9
      · rw [if_pos g2, w64 (x := a + sgn * b + c - 10) (by omega) (by omega), if_pos (by omega), if_pos (by omega), Int.emod_eq_of_lt (by omega) (by omega)]
        exact key _ 1 (by omega) (by omega) (by omega) (by omega)
      · rw [if_neg g2, if_pos (by omega), if_pos (by omega), Int.emod_eq_of_lt (by omega) (by omega)]
        exact key _ 0 (by omega) (by omega) (by omega) (by omega)
theorem add_j1 (n n' : Bool) {l m : List Int} {s t : Nat} (h : Bd l s) (h' : Bd m t) (hl : s < l.length) (hm : t < m.length) (sgn : Int) (hsg : sgn = 1 ∨ sgn = -1) (S : Nat) (hS1 : s ≤ S) (hS2 : t ≤ S) (hlen : l.length + m.length ≤ 4000) (htot : 0 ≤ mag S l s + sgn * mag S m t) :
    ∃ (n'' : Bool) (l'' : List Int) (s'' : Nat), Ev (fun k => dec_Add.j1 k sgn n l s n' m t) (n'', l'', (s'' : Int), 0) ∧ Can n'' l'' s'' ∧ vl S n'' l'' s'' = (if n = true then -(mag S l s + sgn * mag S m t) else mag S l s + sgn * mag S m t) ∧ s'' ≤ max s t ∧ l''.length ≤ l.length + m.length + 2 := by
  have a2 := h.le
  have a4 := h'.le
  obtain ⟨M, hM⟩ : ∃ M : Nat, M = max s t := ⟨_, rfl⟩
  obtain ⟨Q, hQ⟩ : ∃ Q : Nat, (Q : Int) = max ((l.length : Int) - s) ((m.length : Int) - t) + M + 1 := ⟨(max ((l.length : Int) - s) ((m.length : Int) - t) + M + 1).toNat, by omega⟩
  have hla := dgs_length M l s
  have hlb := dgs_length M m t
  have e1 := mag_scale l s (S := M) (S' := S) (by omega) (by omega)
  have e2 := mag_scale m t (S := M) (S' := S) (by omega) (by omega)
  have htot' : 0 ≤ mag M l s + sgn * mag M m t := by
    rw [e1, e2] at htot
    have hp := ten_pos (S - M)
    by_cases hn : mag M l s + sgn * mag M m t < 0
    · exfalso
      have := Int.mul_neg_of_pos_of_neg hp hn
      rw [Int.mul_add, Int.mul_left_comm] at this
      omega
    · omega
  obtain ⟨row', r1, r2, r3, r4⟩ : ∃ row' : List Int, Dg row' ∧ row'.length = Q ∧ rv row'.reverse = mag M l s + sgn * mag M m t ∧ ∀ k, Q < k →
      dec_Add.l0 k sgn (max ((l.length : Int) - s) ((m.length : Int) - t) - 1) (-(M : Int)) (List.replicate Q 0) 0 (-(M : Int)) n l s n' m t = (dec_canon.f n row' (M : Int)).bind fun bt => (if (bt.2.1.length : Int) > 4096 then (some (false, ([] : List Int), 0, 3)) else (some (bt.1, bt.2.1, bt.2.2, 0))) := by
    have base := fun k (hk : Q < k) => add_l0 n n' h h' (S := M) (by omega) (by omega) (by omega) sgn hsg (max ((l.length : Int) - s) ((m.length : Int) - t) - 1) Q (by omega) (by omega) htot' (by omega) (by omega) Q k (List.replicate Q 0) 0 0 (by omega) hk (by simp) (by rw [List.drop_of_length_le (by simp)]; exact Dg_nil) (Or.inl rfl) (by rw [List.drop_of_length_le (by simp)]; simp [rv])
    obtain ⟨row', r1, r2, r3, r4⟩ := base (Q + 1) (by omega)
    refine ⟨row', r1, r2, r3, fun k hk => ?_⟩
    obtain ⟨row2, q1, q2, q3, q4⟩ := base k hk
    have : row2 = row' := by
      have := rv_inj (Dg_reverse.2 q1) (Dg_reverse.2 r1) (by simp; omega) (by omega)
      simpa using this
    subst this
    rw [show ((0 : Nat) : Int) - (M : Int) = -(M : Int) by omega] at q4
    exact q4
  obtain ⟨n'', l'', s'', c1, c2, c3, c4, c5⟩ := canon_eq S n row' M r1 (by omega) (by omega) (by omega) (by omega)
  refine ⟨n'', l'', s'', ?_, c2, ?_, by omega, by omega⟩
  · refine ⟨Q + 2, fun k hk => ?_⟩
    obtain ⟨k, rfl⟩ : ∃ j, k = j + 1 := ⟨k - 1, by omega⟩
    simp only [dec_Add.j1]
    rw [span_eq n n' h h']
    simp only [Option.bind_some]
    rw [show -max (s : Int) (t : Int) = -(M : Int) by omega]
    have hQe : wrap64 (wrap64 (max ((l.length : Int) - s) ((m.length : Int) - t) - 1 - -(M : Int)) + 2) = (Q : Int) := by
      rw [w64 (x := max ((l.length : Int) - s) ((m.length : Int) - t) - 1 - -(M : Int)) (by omega) (by omega), w64 (by omega) (by omega)]
      omega
    rw [hQe, if_pos (by omega), Int.toNat_natCast, if_pos (by omega), r4 k (by omega), c1]
    simp only [Option.bind_some]
    rw [if_neg (by omega)]
  · rw [c3]
    unfold vl
    have : mag S row' M = mag S l s + sgn * mag S m t := by
      show 10 ^ (S - M) * rv row'.reverse = _
      rw [r3, e1, e2, Int.mul_add, Int.mul_left_comm]
    rw [this]
theorem Can.bd {n : Bool} {l : List Int} {s : Nat} (h : Can n l s) (hl : l.length ≤ 1048576) : Bd l s := ⟨h.dg, hl, Nat.le_of_lt h.lt⟩
theorem Can.neg_iff {n : Bool} {l : List Int} {s S : Nat} (h : Can n l s) : (n = true → vl S n l s < 0) ∧ (n = false → 0 ≤ vl S n l s) := by
  constructor
  · intro hn
    have := mag_pos (S := S) (s := s) h.dg (h.sign hn)
    unfold vl
    rw [if_pos hn]
    omega
  · intro hn
    have := mag_nonneg (S := S) (s := s) h.dg
    unfold vl
    rw [hn]
    simpa using this
theorem add_ev {n n' : Bool} {l m : List Int} {s t : Nat} (S : Nat) (h : Can n l s) (h' : Can n' m t) (hS1 : s ≤ S) (hS2 : t ≤ S) (hlen : l.length + m.length ≤ 4000) :
    ∃ (n'' : Bool) (l'' : List Int) (s'' : Nat), Ev (fun k => dec_Add.f k n l s n' m t) (n'', l'', (s'' : Int), 0) ∧ Can n'' l'' s'' ∧ vl S n'' l'' s'' = vl S n l s + vl S n' m t ∧ s'' ≤ max s t ∧ l''.length ≤ l.length + m.length + 2 := by
  have bd := h.bd (by omega)
  have bd' := h'.bd (by omega)
  have hsz := size_ev n n' (S := S) bd bd' hS1 hS2 (by have := h.lt; omega) (by have := h'.lt; omega) h.lt
  have ma := mag_nonneg (S := S) (s := s) h.dg
  have mb := mag_nonneg (S := S) (s := t) h'.dg
  by_cases hlt : mag S l s - mag S m t < 0
  · rw [sg_neg hlt] at hsz
    obtain ⟨sgn, hsg, hsgn⟩ : ∃ sgn : Int, (sgn = 1 ∨ sgn = -1) ∧ sgn = (if n' != n then -1 else 1) := ⟨_, by split <;> simp, rfl⟩
    obtain ⟨n'', l'', s'', e, c, v, b1, b2⟩ := add_j1 n' n bd' bd h'.lt h.lt sgn hsg S hS2 hS1 (by omega) (by rcases hsg with rfl | rfl <;> omega)
    refine ⟨n'', l'', s'', ?_, c, ?_, by omega, by omega⟩
    · refine Ev.congr (f := fun k => (dec_size.f k n l s n' m t).bind fun t134 => _) (fun k => rfl) (Ev.bind hsz ?_)
      simp only [if_pos (show (-1 : Int) < 0 by decide)]
      refine Ev.step (f := fun k => dec_Add.j1 k sgn n' m t n l s) (fun k => ?_) e
      simp only [dec_Add.j0]
      rw [hsgn]
      split <;> rfl
    · rw [v, hsgn]
      cases n <;> cases n' <;> simp [vl] <;> omega
  · have hge : 0 ≤ mag S l s - mag S m t := by omega
    obtain ⟨sgn, hsg, hsgn⟩ : ∃ sgn : Int, (sgn = 1 ∨ sgn = -1) ∧ sgn = (if n != n' then -1 else 1) := ⟨_, by split <;> simp, rfl⟩
    obtain ⟨n'', l'', s'', e, c, v, b1, b2⟩ := add_j1 n n' bd bd' h.lt h'.lt sgn hsg S hS1 hS2 (by omega) (by rcases hsg with rfl | rfl <;> omega)
    have hnn : ¬ sg (mag S l s - mag S m t) < 0 := by
      rcases Int.lt_or_eq_of_le hge with h1 | h1
      · rw [sg_pos h1]; decide
      · rw [← h1]; decide
    refine ⟨n'', l'', s'', ?_, c, ?_, by omega, by omega⟩
    · refine Ev.congr (f := fun k => (dec_size.f k n l s n' m t).bind fun t134 => _) (fun k => rfl) (Ev.bind hsz ?_)
      simp only [if_neg hnn]
      refine Ev.step (f := fun k => dec_Add.j1 k sgn n l s n' m t) (fun k => ?_) e
      simp only [dec_Add.j0]
      rw [hsgn]
      split <;> rfl
    · rw [v, hsgn]
      cases n <;> cases n' <;> simp [vl] <;> omega
theorem cmp_ev {n n' : Bool} {l m : List Int} {s t : Nat} (S : Nat) (h : Can n l s) (h' : Can n' m t) (hS1 : s ≤ S) (hS2 : t ≤ S) (hl : l.length ≤ 1048576) (hm : m.length ≤ 1048576) :
    Ev (fun k => dec_Cmp.f k n l s n' m t) (sg (vl S n l s - vl S n' m t)) := by
  have bd := h.bd hl
  have bd' := h'.bd hm
  have s1 := size_ev n n' (S := S) bd bd' hS1 hS2 (by have := h.lt; omega) (by have := h'.lt; omega) h.lt
  have s2 := size_ev n' n (S := S) bd' bd hS2 hS1 (by have := h'.lt; omega) (by have := h.lt; omega) h'.lt
  have q1 := h.neg_iff (S := S)
  have q2 := h'.neg_iff (S := S)
  cases n with
  | true =>
    have a1 := q1.1 rfl
    cases n' with
    | true =>
      refine Ev.congr (f := fun k => dec_Cmp.j0 k false true l s true m t) (fun k => rfl) (Ev.step (f := fun k => dec_Cmp.j1 k false true l s true m t) (fun k => by simp [dec_Cmp.j0]) (Ev.step (f := fun k => (dec_size.f k true m t true l s).bind fun t126 => some t126) (fun k => by simp [dec_Cmp.j1]) ?_))
      have : vl S true l s - vl S true m t = mag S m t - mag S l s := by simp [vl]; omega
      rw [this]
      exact Ev.bind s2 (Ev.now _)
    | false =>
      have b1 := q2.2 rfl
      rw [sg_neg (by omega)]
      exact Ev.congr (f := fun k => dec_Cmp.j0 k true true l s false m t) (fun k => rfl) (Ev.step (f := fun k => some (-1)) (fun k => by simp [dec_Cmp.j0]) (Ev.now _))
  | false =>
    have a1 := q1.2 rfl
    cases n' with
    | true =>
      have b1 := q2.1 rfl
      rw [sg_pos (by omega)]
      exact Ev.congr (f := fun k => dec_Cmp.j0 k false false l s true m t) (fun k => rfl) (Ev.step (f := fun k => dec_Cmp.j1 k true false l s true m t) (fun k => by simp [dec_Cmp.j0]) (Ev.step (f := fun k => some 1) (fun k => by simp [dec_Cmp.j1]) (Ev.now _)))
    | false =>
      refine Ev.congr (f := fun k => dec_Cmp.j0 k false false l s false m t) (fun k => rfl) (Ev.step (f := fun k => dec_Cmp.j1 k false false l s false m t) (fun k => by simp [dec_Cmp.j0]) (Ev.step (f := fun k => (dec_size.f k false l s false m t).bind fun t127 => some t127) (fun k => by simp [dec_Cmp.j1]) ?_))
      have : vl S false l s - vl S false m t = mag S l s - mag S m t := by simp [vl]
      rw [this]
      exact Ev.bind s1 (Ev.now _)

end Go.Proofs.YtnafjabpkbahdaaDoor.B
