import Derived.Test.YtnafjabpkbahdaaB4
import Derived.Test.YtnafjabpkbahdaaPrx9
import Derived.Test.YtnafjabpkbahdaaPrx10
namespace Go.Proofs.Ytnafjabpkbahdaa.B
open Go.RowKit Go.Proofs.Ytnafjabpkbahdaa Go.Proofs.Ytnafjabpkbahdaa.G Go.Proofs.Ytnafjabpkbahdaa.Pr Go.Proofs.YtnafjabpkbahdaaW.PrintWords Go.Proofs.YtnafjabpkbahdaaW.PrintLast
set_option linter.unusedVariables false
theorem digit_eq (n : Bool) (l : List Int) (s p : Int) : rubricref5_Dec_digit.f n l s p = dec_Dec_at.f n l s p := rfl
theorem high_eq (n n' : Bool) {l m : List Int} {s t : Nat} (h : Bd l s) (h' : Bd m t) :
    rubricref5_high.f n l s n' m t = some (max ((l.length : Int) - s) ((m.length : Int) - t), max (s : Int) (t : Int)) := by
  have h1 := h.len
  have h2 := h.le
  have h3 := h'.len
  have h4 := h'.le
  unfold rubricref5_high.f
  rw [w64 (x := (l.length : Int) - s) (by omega) (by omega), w64 (x := (m.length : Int) - t) (by omega) (by omega)]
  split <;> split <;> (congr 2 <;> omega)
theorem rsize_l0 (n n' : Bool) {l m : List Int} {s t S : Nat} (h : Bd l s) (h' : Bd m t) (h1 : s ≤ S) (h2 : t ≤ S) (hS : S ≤ 1048576) :
    ∀ (q k : Nat), q ≤ 4194304 → q < k → rubricref5_size.l0 k (S : Int) ((q : Int) - 1 - S) n l s n' m t = some (cmpDn (dgs S l s) (dgs S m t) q)
  | 0, k, _, hk => by
    obtain ⟨k, rfl⟩ : ∃ j, k = j + 1 := ⟨k - 1, by omega⟩
    simp only [rubricref5_size.l0]
    rw [if_neg (by rw [w64 (by omega) (by omega)]; omega)]
    rfl
  | q + 1, k, hq, hk => by
    obtain ⟨k, rfl⟩ : ∃ j, k = j + 1 := ⟨k - 1, by omega⟩
    simp only [rubricref5_size.l0]
    rw [if_pos (by rw [w64 (x := -(S : Int)) (by omega) (by omega)]; omega), digit_eq, digit_eq, at_eq n h h1 hS q (by omega) _ (by omega), at_eq n' h' h2 hS q (by omega) _ (by omega)]
    simp only [Option.bind_some, cmpDn]
    by_cases e : (dgs S l s).getD q 0 = (dgs S m t).getD q 0
    · rw [if_pos e, if_neg (by omega), if_neg (by omega), w64 (by omega) (by omega), show (((q + 1 : Nat) : Int) - 1 - S - 1) = (q : Int) - 1 - S by omega]
      exact rsize_l0 n n' h h' h1 h2 hS q k (by omega) (by omega)
    · rw [if_neg e]
      by_cases e2 : (dgs S l s).getD q 0 < (dgs S m t).getD q 0
      · rw [if_pos e2, if_pos e2]
      · rw [if_neg e2, if_neg e2, if_pos (by omega)]
theorem rsize_ev (n n' : Bool) {l m : List Int} {s t S : Nat} (h : Bd l s) (h' : Bd m t) (h1 : s ≤ S) (h2 : t ≤ S) (hsl : s < l.length) (htm : t < m.length) :
    Ev (fun k => rubricref5_size.f k n l s n' m t) (sg (mag S l s - mag S m t)) := by
  have a1 := h.len
  have a2 := h.le
  have a3 := h'.len
  have a4 := h'.le
  refine ⟨4194305, fun k hk => ?_⟩
  unfold rubricref5_size.f
  rw [high_eq n n' h h']
  simp only [Option.bind_some]
  obtain ⟨M, hM⟩ : ∃ M : Nat, M = max s t := ⟨_, rfl⟩
  obtain ⟨Q, hQ⟩ : ∃ Q : Nat, (Q : Int) = max ((l.length : Int) - s) ((m.length : Int) - t) + M + 1 := ⟨(max ((l.length : Int) - s) ((m.length : Int) - t) + M + 1).toNat, by omega⟩
  rw [show max (s : Int) (t : Int) = (M : Int) by omega, show max ((l.length : Int) - s) ((m.length : Int) - t) = (Q : Int) - 1 - M by omega]
  rw [rsize_l0 n n' h h' (S := M) (by omega) (by omega) (by omega) Q k (by omega) (by omega), cmpDn_sg (Dg_dgs h.dg) (Dg_dgs h'.dg)]
  have b1 := dgs_length M l s
  have b2 := dgs_length M m t
  rw [List.take_of_length_le (by omega), List.take_of_length_le (by omega), rv_dgs, rv_dgs, mag_scale l s (S := M) (S' := S) (by omega) (by omega), mag_scale m t (S := M) (S' := S) (by omega) (by omega), ← Int.mul_sub, sg_scale (ten_pos _)]
/-! canon, as the reference has it -/
theorem rzero_l0 (n : Bool) (l : List Int) (s : Int) (hl : l.length ≤ 2097152) : ∀ (d i : Nat), i + d = l.length → Ev (fun k => rubricref5_Dec_zero.l0 k (i : Int) n l s) ((l.drop i).all (· == 0))
  | 0, i, hi => by
    refine Ev_succ ?_
    rw [List.drop_of_length_le (by omega)]
    simp only [rubricref5_Dec_zero.l0, if_neg (show ¬ (i : Int) < (l.length : Int) by omega)]
    exact Ev.now _
  | d + 1, i, hi => by
    refine Ev_succ ?_
    simp only [rubricref5_Dec_zero.l0, if_pos (show (i : Int) < (l.length : Int) by omega), if_pos (show (0 : Int) ≤ (i : Int) by omega)]
    rw [List.drop_eq_getElem_cons (show i < l.length by omega), List.all_cons]
    have e : rd l (i : Int) = l[i]'(by omega) := by
      unfold rd
      rw [Int.toNat_natCast, List.getD_eq_getElem?_getD, List.getElem?_eq_getElem (by omega)]
      rfl
    rw [e]
    by_cases h0 : l[i]'(by omega) = 0
    · simp only [h0]
      rw [w64 (x := (i : Int) + 1) (by omega) (by omega), show (i : Int) + 1 = ((i + 1 : Nat) : Int) by omega]
      simpa using rzero_l0 n l s hl d (i + 1) (by omega)
    · simp only [if_neg h0]
      have : (l[i]'(by omega) == 0) = false := by simpa using h0
      rw [this]
      exact Ev.now _
theorem rcanon_end (n : Bool) (l : List Int) (s : Int) (hl : l.length ≤ 2097152) (hs : s < l.length) (h0 : 0 ≤ s) : Ev (fun k => rubricref5_canon.l2 k n l s) (n && !l.all (· == 0), l, s) := by
  refine Ev_succ ?_
  simp only [rubricref5_canon.l2]
  rw [w64 (x := s + 1) (by omega) (by omega)]
  simp only [if_neg (show ¬ (l.length : Int) < s + 1 by omega), Option.bind_some, List.nil_append, List.length_nil, if_pos (show 0 + l.length < 140737488355328 by omega)]
  refine Ev.bind (a := l.all (· == 0)) (Ev.congr (f := fun k => rubricref5_Dec_zero.l0 k 0 n l s) (fun k => rfl) (by simpa using rzero_l0 n l s hl l.length 0 (by omega))) ?_
  cases hz : l.all (· == 0) with
  | true => simpa using Ev.now _
  | false => simpa using Ev.now _
theorem rcanon_l2 (n : Bool) (l : List Int) (s : Nat) (hl : l.length ≤ 1048576) (hs : s ≤ l.length) : Ev (fun k => rubricref5_canon.l2 k n l (s : Int)) (n && !(padH s l).all (· == 0), padH s l, (s : Int)) := by
  unfold padH
  split
  · refine Ev_succ ?_
    simp only [rubricref5_canon.l2]
    rw [w64 (x := (s : Int) + 1) (by omega) (by omega)]
    simp only [if_pos (show (l.length : Int) < (s : Int) + 1 by omega), Option.bind_some, List.length_singleton, if_pos (show 1 + l.length < 140737488355328 by omega), List.singleton_append]
    exact rcanon_end n (0 :: l) s (by simp only [List.length_cons]; omega) (by simp only [List.length_cons]; omega) (by omega)
  · exact rcanon_end n l s (by omega) (by omega) (by omega)
theorem rcanon_l1 (n : Bool) (s : Nat) {r : Bool × List Int × Int} : ∀ (l : List Int), l.length ≤ 1048576 → s ≤ l.length → Ev (fun k => rubricref5_canon.l2 k n (trimH s l) (s : Int)) r → Ev (fun k => rubricref5_canon.l1 k n l (s : Int)) r
  | [], hl, hs, h => by
    refine Ev_succ ?_
    simp only [rubricref5_canon.l1, List.length_nil]
    rw [w64 (by omega) (by omega)]
    simp only [if_neg (show ¬ ((0 : Nat) : Int) - (s : Int) > 1 by omega)]
    exact Ev.step (fun k => rfl) h
  | x :: t, hl, hs, h => by
    refine Ev_succ ?_
    simp only [rubricref5_canon.l1]
    rw [w64 (x := ((x :: t).length : Int) - (s : Int)) (by omega) (by omega)]
    simp only [List.length_cons] at hl hs
    by_cases h1 : s + 1 < t.length + 1
    · have g1 : ((x :: t).length : Int) - (s : Int) > 1 := by simp only [List.length_cons]; omega
      have g2 : (0 : Int) < ((x :: t).length : Int) := by simp only [List.length_cons]; omega
      have g3 : (1 : Int) ≤ ((x :: t).length : Int) := by simp only [List.length_cons]; omega
      have e : rd (x :: t) 0 = x := rfl
      simp only [if_pos g1, if_pos g2, e, if_pos g3]
      by_cases h2 : x = 0
      · simp only [if_pos h2, List.drop_one, List.tail_cons]
        simp only [trimH] at h
        rw [if_pos ⟨h1, h2⟩] at h
        exact rcanon_l1 n s t (by omega) (by omega) h
      · simp only [if_neg h2]
        simp only [trimH] at h
        rw [if_neg (fun hh => h2 hh.2)] at h
        exact Ev.step (fun k => rfl) h
    · have g1 : ¬ ((x :: t).length : Int) - (s : Int) > 1 := by simp only [List.length_cons]; omega
      simp only [if_neg g1]
      simp only [trimH] at h
      rw [if_neg (fun hh => h1 hh.1)] at h
      exact Ev.step (fun k => rfl) h
theorem rcanon_l0 (n : Bool) {r : Bool × List Int × Int} : ∀ (s : Nat) (l : List Int), l.length ≤ 1048576 → s ≤ l.length → Ev (fun k => rubricref5_canon.l1 k n (trimT l s).1 ((trimT l s).2 : Int)) r → Ev (fun k => rubricref5_canon.l0 k n l (s : Int)) r
  | 0, l, hl, hs, h => by
    refine Ev_succ ?_
    simp only [rubricref5_canon.l0, if_neg (show ¬ ((0 : Nat) : Int) > 0 by omega)]
    exact Ev.step (fun k => rfl) h
  | s + 1, l, hl, hs, h => by
    refine Ev_succ ?_
    simp only [rubricref5_canon.l0]
    rw [w64 (x := (l.length : Int) - 1) (by omega) (by omega)]
    simp only [if_pos (show ((s + 1 : Nat) : Int) > 0 by omega), if_pos (show (l.length : Int) > 0 by omega), if_pos (show 0 ≤ (l.length : Int) - 1 by omega), if_pos (show (l.length : Int) - 1 < (l.length : Int) by omega), if_pos (show (l.length : Int) - 1 ≤ (l.length : Int) by omega)]
    have e : rd l ((l.length : Int) - 1) = l.getD (l.length - 1) 0 := by
      unfold rd
      rw [show ((l.length : Int) - 1).toNat = l.length - 1 by omega]
    have e2 : ((l.length : Int) - 1).toNat = l.length - 1 := by omega
    rw [e, e2]
    simp only [trimT] at h
    by_cases h0 : l.getD (l.length - 1) 0 = 0
    · rw [if_pos h0] at h
      simp only [if_pos h0]
      rw [w64 (x := ((s + 1 : Nat) : Int) - 1) (by omega) (by omega), show ((s + 1 : Nat) : Int) - 1 = (s : Int) by omega]
      exact rcanon_l0 n s (l.take (l.length - 1)) (by simp; omega) (by simp; omega) h
    · rw [if_neg h0] at h
      simp only [if_neg h0]
      exact Ev.step (fun k => rfl) h
theorem rcanon_ev (n : Bool) (l : List Int) (s : Nat) {r : Bool × List Int × Int} (h : dec_canon.f n l (s : Int) = some r) : Ev (fun k => rubricref5_canon.f k n l (s : Int)) r := by
  unfold dec_canon.f at h
  split at h
  · rename_i hg
    obtain ⟨h1, h2, h3, h4⟩ := hg
    rw [Int.toNat_natCast] at h
    injection h with h
    subst h
    have ht := trimT_len l s (by omega)
    have hh := trimH_len (trimT l s).2 (trimT l s).1 (by omega)
    refine rcanon_l0 n s l h2 (by omega) (rcanon_l1 n _ _ (by omega) (by omega) ?_)
    have hle : (trimH (trimT l s).2 (trimT l s).1).length ≤ (trimT l s).1.length := by
      generalize (trimT l s).2 = s1
      generalize (trimT l s).1 = l1
      induction l1 with
      | nil => simp [trimH]
      | cons x t ih =>
        simp only [trimH]
        split
        · simp only [List.length_cons]
          omega
        · exact Nat.le_refl _
    exact rcanon_l2 n _ _ (by omega) hh
  · cases h
theorem radd_l0 (n0 n n' : Bool) {l m : List Int} {s t S : Nat} (h : Bd l s) (h' : Bd m t) (h1 : s ≤ S) (h2 : t ≤ S) (hS : S ≤ 1048576) (hi : Int) (Q : Nat) (hQ : (Q : Int) = hi + S + 1) (hQ2 : Q ≤ 2097152)
    (htot : 0 ≤ mag S l s + mag S m t) (hla : (dgs S l s).length < Q) (hlb : (dgs S m t).length < Q) :
    ∀ (d : Nat) (row : List Int) (c : Int) (q : Nat), q + d = Q → row.length = Q → Dg (row.drop d) → (c = 0 ∨ c = 1) →
      rv (row.drop d).reverse + c * 10 ^ q = rv ((dgs S l s).take q) + rv ((dgs S m t).take q) →
      ∃ row' : List Int, Dg row' ∧ row'.length = Q ∧ rv row'.reverse = mag S l s + mag S m t ∧
        ∀ r, Ev (fun k => (rubricref5_canon.f k n0 row' (S : Int)).bind fun bt => (if (bt.2.1.length : Int) > 4096 then (some (false, ([] : List Int), 0, 3)) else (some (bt.1, bt.2.1, bt.2.2, 0)))) r → Ev (fun k => rubricref5_Add.l0 k hi (S : Int) row n0 c ((q : Int) - S) n l s n' m t) r
  | 0, row, c, q, hq, hr, hd, hc, hv => by
    rw [List.drop_zero] at hd hv
    obtain rfl : q = Q := by omega
    rw [List.take_of_length_le (by omega), List.take_of_length_le (by omega), rv_dgs, rv_dgs] at hv
    have b1 := rv_lt (Dg_reverse.2 hd)
    have b2 := rv_nonneg (Dg_reverse.2 hd)
    have b3 := rv_lt (Dg_dgs (S := S) (s := s) h.dg)
    have b4 := rv_lt (Dg_dgs (S := S) (s := t) h'.dg)
    have b5 : (10 : Int) ^ (dgs S l s).length ≤ 10 ^ (q - 1) := ten_le (by omega)
    have b6 : (10 : Int) ^ (dgs S m t).length ≤ 10 ^ (q - 1) := ten_le (by omega)
    have b7 : (10 : Int) ^ q = 10 * 10 ^ (q - 1) := by rw [← ten_succ]; congr 1; omega
    have b8 := ten_pos (q - 1)
    have b9 := mag_nonneg (S := S) (s := t) h'.dg
    rw [rv_dgs] at b3 b4
    rw [List.length_reverse, hr] at b1
    have hc0 : c = 0 := by
      rcases hc with hc | hc
      · exact hc
      · exfalso
        subst hc
        omega
    subst hc0
    refine ⟨row, hd, hr, by rw [← hv]; simp, fun r hr2 => Ev_succ ?_⟩
    simp only [rubricref5_Add.l0]
    simp only [if_neg (show ¬ (q : Int) - S ≤ hi by omega)]
    exact hr2
  | d + 1, row, c, q, hq, hr, hd, hc, hv => by
    have ga := Dg_getD (Dg_dgs (S := S) (s := s) h.dg) q
    have gb := Dg_getD (Dg_dgs (S := S) (s := t) h'.dg) q
    have hna := rv_take_succ (dgs S l s) q
    have hnb := rv_take_succ (dgs S m t) q
    have key : ∀ (v c' : Int), 0 ≤ v → v ≤ 9 → (c' = 0 ∨ c' = 1) → v = (dgs S l s).getD q 0 + (dgs S m t).getD q 0 + c - 10 * c' →
        ∃ row' : List Int, Dg row' ∧ row'.length = Q ∧ rv row'.reverse = mag S l s + mag S m t ∧
        ∀ r, Ev (fun k => (rubricref5_canon.f k n0 row' (S : Int)).bind fun bt => (if (bt.2.1.length : Int) > 4096 then (some (false, ([] : List Int), 0, 3)) else (some (bt.1, bt.2.1, bt.2.2, 0)))) r → Ev (fun k => rubricref5_Add.l0 k hi (S : Int) (row.set d v) n0 c' (((q + 1 : Nat) : Int) - S) n l s n' m t) r := by
      intro v c' hv0 hv9 hc' hve
      have e : (row.set d v).drop d = v :: row.drop (d + 1) := by
        rw [List.drop_eq_getElem_cons (by simp; omega)]
        congr 1
        · simp
        · rw [List.drop_set_of_lt (by omega)]
      refine radd_l0 n0 n n' h h' h1 h2 hS hi Q hQ hQ2 htot hla hlb d (row.set d v) c' (q + 1) (by omega) (by simpa using hr) ?_ hc' ?_
      · rw [e]
        exact Dg_cons.2 ⟨⟨hv0, hv9⟩, hd⟩
      · rw [e, List.reverse_cons, rv_append, hna, hnb, ten_succ, List.length_reverse, List.length_drop, hr, show Q - (d + 1) = q by omega]
        simp only [rv]
        subst hve
        grind
    have key2 : ∀ (v c' : Int), 0 ≤ v → v ≤ 9 → (c' = 0 ∨ c' = 1) → v = (dgs S l s).getD q 0 + (dgs S m t).getD q 0 + c - 10 * c' →
        (∀ k, (rubricref5_Add.l0 (k + 1) hi (S : Int) row n0 c ((q : Int) - S) n l s n' m t) = rubricref5_Add.l0 k hi (S : Int) (row.set d v) n0 c' (((q + 1 : Nat) : Int) - S) n l s n' m t) →
        ∃ row' : List Int, Dg row' ∧ row'.length = Q ∧ rv row'.reverse = mag S l s + mag S m t ∧
        ∀ r, Ev (fun k => (rubricref5_canon.f k n0 row' (S : Int)).bind fun bt => (if (bt.2.1.length : Int) > 4096 then (some (false, ([] : List Int), 0, 3)) else (some (bt.1, bt.2.1, bt.2.2, 0)))) r → Ev (fun k => rubricref5_Add.l0 k hi (S : Int) row n0 c ((q : Int) - S) n l s n' m t) r := by
      intro v c' a1 a2 a3 a4 a5
      obtain ⟨row', r1, r2, r3, r4⟩ := key v c' a1 a2 a3 a4
      exact ⟨row', r1, r2, r3, fun r hr => Ev.step a5 (r4 r hr)⟩
    clear key
    have hqe : ((q : Int) - S + 1) = ((q + 1 : Nat) : Int) - S := by omega
    have hstep : ∀ k, (rubricref5_Add.l0 (k + 1) hi (S : Int) row n0 c ((q : Int) - S) n l s n' m t) = rubricref5_Add.l0 k hi (S : Int) (row.set d (((dgs S l s).getD q 0 + (dgs S m t).getD q 0 + c) % 10)) n0 (((dgs S l s).getD q 0 + (dgs S m t).getD q 0 + c) / 10) (((q + 1 : Nat) : Int) - S) n l s n' m t := fun k => by
      simp only [rubricref5_Add.l0]
      rw [if_pos (show (q : Int) - S ≤ hi by omega), digit_eq, digit_eq, at_eq n h h1 hS q (by omega) _ rfl, at_eq n' h' h2 hS q (by omega) _ rfl]
      simp only [Option.bind_some]
      generalize (dgs S l s).getD q 0 = a at *
      generalize (dgs S m t).getD q 0 = b at *
      have hv : wrap64 (wrap64 (a + b) + c) = a + b + c := by rw [w64 (x := a + b) (by omega) (by omega), w64 (by omega) (by omega)]
      have ht : Int.tmod (a + b + c) 10 = (a + b + c) % 10 := Int.tmod_eq_emod_of_nonneg (by omega)
      have hd : Int.tdiv (a + b + c) 10 = (a + b + c) / 10 := Int.tdiv_eq_ediv_of_nonneg (by omega)
      rw [hv, ht, hd, w64 (x := hi - ((q : Int) - S)) (by omega) (by omega), show hi - ((q : Int) - S) = (d : Int) by omega, Int.toNat_natCast, w64 (x := (q : Int) - S + 1) (by omega) (by omega), hqe, if_pos (by omega), if_pos (by omega), w64 (x := (a + b + c) / 10) (by omega) (by omega), Int.emod_eq_of_lt (a := (a + b + c) % 10) (by omega) (by omega)]
    generalize (dgs S l s).getD q 0 = a at *
    generalize (dgs S m t).getD q 0 = b at *
    have hcc : 0 ≤ c ∧ c ≤ 1 := by omega
    exact key2 _ _ (by omega) (by omega) (by omega) (by omega) hstep
theorem radd_l1 (n0 n n' : Bool) {l m : List Int} {s t S : Nat} (h : Bd l s) (h' : Bd m t) (h1 : s ≤ S) (h2 : t ≤ S) (hS : S ≤ 1048576) (hi : Int) (Q : Nat) (hQ : (Q : Int) = hi + S + 1) (hQ2 : Q ≤ 2097152)
    (htot : 0 ≤ mag S l s - mag S m t) (hla : (dgs S l s).length < Q) (hlb : (dgs S m t).length < Q) :
    ∀ (d : Nat) (row : List Int) (c : Int) (q : Nat), q + d = Q → row.length = Q → Dg (row.drop d) → (c = 0 ∨ c = 1) →
      rv (row.drop d).reverse - c * 10 ^ q = rv ((dgs S l s).take q) - rv ((dgs S m t).take q) →
      ∃ row' : List Int, Dg row' ∧ row'.length = Q ∧ rv row'.reverse = mag S l s - mag S m t ∧
        ∀ r, Ev (fun k => (rubricref5_canon.f k n0 row' (S : Int)).bind fun bt => (if (bt.2.1.length : Int) > 4096 then (some (false, ([] : List Int), 0, 3)) else (some (bt.1, bt.2.1, bt.2.2, 0)))) r → Ev (fun k => rubricref5_Add.l1 k hi (S : Int) row n0 c ((q : Int) - S) n l s n' m t) r
  | 0, row, c, q, hq, hr, hd, hc, hv => by
    rw [List.drop_zero] at hd hv
    obtain rfl : q = Q := by omega
    rw [List.take_of_length_le (by omega), List.take_of_length_le (by omega), rv_dgs, rv_dgs] at hv
    have b1 := rv_lt (Dg_reverse.2 hd)
    have b2 := rv_nonneg (Dg_reverse.2 hd)
    have b3 := rv_lt (Dg_dgs (S := S) (s := s) h.dg)
    have b4 := rv_lt (Dg_dgs (S := S) (s := t) h'.dg)
    have b5 : (10 : Int) ^ (dgs S l s).length ≤ 10 ^ (q - 1) := ten_le (by omega)
    have b6 : (10 : Int) ^ (dgs S m t).length ≤ 10 ^ (q - 1) := ten_le (by omega)
    have b7 : (10 : Int) ^ q = 10 * 10 ^ (q - 1) := by rw [← ten_succ]; congr 1; omega
    have b8 := ten_pos (q - 1)
    have b9 := mag_nonneg (S := S) (s := t) h'.dg
    rw [rv_dgs] at b3 b4
    rw [List.length_reverse, hr] at b1
    have hc0 : c = 0 := by
      rcases hc with hc | hc
      · exact hc
      · exfalso
        subst hc
        omega
    subst hc0
    refine ⟨row, hd, hr, by rw [← hv]; simp, fun r hr2 => Ev_succ ?_⟩
    simp only [rubricref5_Add.l1]
    simp only [if_neg (show ¬ (q : Int) - S ≤ hi by omega)]
    exact hr2
  | d + 1, row, c, q, hq, hr, hd, hc, hv => by
    have ga := Dg_getD (Dg_dgs (S := S) (s := s) h.dg) q
    have gb := Dg_getD (Dg_dgs (S := S) (s := t) h'.dg) q
    have hna := rv_take_succ (dgs S l s) q
    have hnb := rv_take_succ (dgs S m t) q
    have key : ∀ (v c' : Int), 0 ≤ v → v ≤ 9 → (c' = 0 ∨ c' = 1) → v = (dgs S l s).getD q 0 - (dgs S m t).getD q 0 - c + 10 * c' →
        ∃ row' : List Int, Dg row' ∧ row'.length = Q ∧ rv row'.reverse = mag S l s - mag S m t ∧
        ∀ r, Ev (fun k => (rubricref5_canon.f k n0 row' (S : Int)).bind fun bt => (if (bt.2.1.length : Int) > 4096 then (some (false, ([] : List Int), 0, 3)) else (some (bt.1, bt.2.1, bt.2.2, 0)))) r → Ev (fun k => rubricref5_Add.l1 k hi (S : Int) (row.set d v) n0 c' (((q + 1 : Nat) : Int) - S) n l s n' m t) r := by
      intro v c' hv0 hv9 hc' hve
      have e : (row.set d v).drop d = v :: row.drop (d + 1) := by
        rw [List.drop_eq_getElem_cons (by simp; omega)]
        congr 1
        · simp
        · rw [List.drop_set_of_lt (by omega)]
      refine radd_l1 n0 n n' h h' h1 h2 hS hi Q hQ hQ2 htot hla hlb d (row.set d v) c' (q + 1) (by omega) (by simpa using hr) ?_ hc' ?_
      · rw [e]
        exact Dg_cons.2 ⟨⟨hv0, hv9⟩, hd⟩
      · rw [e, List.reverse_cons, rv_append, hna, hnb, ten_succ, List.length_reverse, List.length_drop, hr, show Q - (d + 1) = q by omega]
        simp only [rv]
        subst hve
        grind
    have key2 : ∀ (v c' : Int), 0 ≤ v → v ≤ 9 → (c' = 0 ∨ c' = 1) → v = (dgs S l s).getD q 0 - (dgs S m t).getD q 0 - c + 10 * c' →
        (∀ k, (rubricref5_Add.l1 (k + 1) hi (S : Int) row n0 c ((q : Int) - S) n l s n' m t) = rubricref5_Add.l1 k hi (S : Int) (row.set d v) n0 c' (((q + 1 : Nat) : Int) - S) n l s n' m t) →
        ∃ row' : List Int, Dg row' ∧ row'.length = Q ∧ rv row'.reverse = mag S l s - mag S m t ∧
        ∀ r, Ev (fun k => (rubricref5_canon.f k n0 row' (S : Int)).bind fun bt => (if (bt.2.1.length : Int) > 4096 then (some (false, ([] : List Int), 0, 3)) else (some (bt.1, bt.2.1, bt.2.2, 0)))) r → Ev (fun k => rubricref5_Add.l1 k hi (S : Int) row n0 c ((q : Int) - S) n l s n' m t) r := by
      intro v c' a1 a2 a3 a4 a5
      obtain ⟨row', r1, r2, r3, r4⟩ := key v c' a1 a2 a3 a4
      exact ⟨row', r1, r2, r3, fun r hr => Ev.step a5 (r4 r hr)⟩
    clear key
    have hqe : ((q : Int) - S + 1) = ((q + 1 : Nat) : Int) - S := by omega
    have hstep : ∀ k, (rubricref5_Add.l1 (k + 1) hi (S : Int) row n0 c ((q : Int) - S) n l s n' m t) = if (dgs S l s).getD q 0 - (dgs S m t).getD q 0 - c < 0 then rubricref5_Add.l1 k hi (S : Int) (row.set d ((dgs S l s).getD q 0 - (dgs S m t).getD q 0 - c + 10)) n0 1 (((q + 1 : Nat) : Int) - S) n l s n' m t else rubricref5_Add.l1 k hi (S : Int) (row.set d ((dgs S l s).getD q 0 - (dgs S m t).getD q 0 - c)) n0 0 (((q + 1 : Nat) : Int) - S) n l s n' m t := fun k => by
      simp only [rubricref5_Add.l1]
      rw [if_pos (show (q : Int) - S ≤ hi by omega), digit_eq, digit_eq, at_eq n h h1 hS q (by omega) _ rfl, at_eq n' h' h2 hS q (by omega) _ rfl]
      simp only [Option.bind_some]
      generalize (dgs S l s).getD q 0 = a at *
      generalize (dgs S m t).getD q 0 = b at *
      rw [w64 (x := a - b) (by omega) (by omega), w64 (x := a - b - c) (by omega) (by omega), w64 (x := hi - ((q : Int) - S)) (by omega) (by omega), show hi - ((q : Int) - S) = (d : Int) by omega, Int.toNat_natCast, w64 (x := (q : Int) - S + 1) (by omega) (by omega), hqe]
      by_cases g1 : a - b - c < 0
      · rw [if_pos g1, if_pos (by omega), if_pos (by omega), w64 (x := a - b - c + 10) (by omega) (by omega), Int.emod_eq_of_lt (by omega) (by omega), if_pos g1]
      · rw [if_neg g1, if_pos (by omega), if_pos (by omega), Int.emod_eq_of_lt (by omega) (by omega), if_neg g1]
    generalize (dgs S l s).getD q 0 = a at *
    generalize (dgs S m t).getD q 0 = b at *
    have hcc : 0 ≤ c ∧ c ≤ 1 := by omega
    by_cases g1 : a - b - c < 0
    · exact key2 (a - b - c + 10) 1 (by omega) (by omega) (by omega) (by omega) (fun k => by rw [hstep k, if_pos g1])
    · exact key2 (a - b - c) 0 (by omega) (by omega) (by omega) (by omega) (fun k => by rw [hstep k, if_neg g1])

end Go.Proofs.Ytnafjabpkbahdaa.B
