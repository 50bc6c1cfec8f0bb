import Derived.Test.YtnafjabpkbahdaaDoorB4a
import Derived.Test.YtnafjabpkbahdaaDoorPrx6
namespace Go.Proofs.YtnafjabpkbahdaaDoor.B
open Go.RowKit Go.Proofs.YtnafjabpkbahdaaDoor Go.Proofs.YtnafjabpkbahdaaDoor.G Go.Proofs.YtnafjabpkbahdaaDoor.Pr Go.Proofs.YtnafjabpkbahdaaDoorW.PrintWords Go.Proofs.YtnafjabpkbahdaaDoorW.PrintLast
set_option linter.unusedVariables false
set_option linter.unusedSimpArgs false
theorem rzero_l0 (n : Bool) (l : List Int) (s : Int) (hl : l.length ≤ 2097152) : ∀ (d i : Nat), i + d = l.length → Ev (fun k => rubricref5_Dec_zero.l0 k (i : Int) n l s) ((l.drop i).all (· == 0))
  | 0, i, hi => by
    refine Ev_succ ?_
    rw [List.drop_of_length_le (by omega)]
    simp only [rubricref5_Dec_zero.l0, if_neg (show ¬ (i : Int) < (l.length : Int) by omega)]
    exact Ev.now _
  | d + 1, i, hi => by
    refine Ev_succ ?_
    simp only [rubricref5_Dec_zero.l0, if_pos (show (i : Int) < (l.length : Int) by omega), if_pos (show (0 : Int) ≤ (i : Int) by omega)]
    rw [List.drop_eq_getElem_cons (show i < l.length by omega), List.all_cons]
    have e : rd l (i : Int) = l[i]'(by omega) := by
      unfold rd
      rw [Int.toNat_natCast, List.getD_eq_getElem?_getD, List.getElem?_eq_getElem (by omega)]
      rfl
    rw [e]
    by_cases h0 : l[i]'(by omega) = 0
    · simp only [h0]
      rw [w64 (x := (i : Int) + 1) (by omega) (by omega), show (i : Int) + 1 = ((i + 1 : Nat) : Int) by omega]
      simpa using rzero_l0 n l s hl d (i + 1) (by omega)
    · simp only [if_neg h0]
      have : (l[i]'(by omega) == 0) = false := by simpa using h0
      rw [this]
      exact Ev.now _
theorem rcanon_end (n : Bool) (l : List Int) (s : Int) (hl : l.length ≤ 2097152) (hs : s < l.length) (h0 : 0 ≤ s) : Ev (fun k => rubricref5_canon.l2 k n l s) (n && !l.all (· == 0), l, s) := by
  refine Ev_succ ?_
  simp only [rubricref5_canon.l2]
  rw [w64 (x := s + 1) (by omega) (by omega)]
  simp only [if_neg (show ¬ (l.length : Int) < s + 1 by omega), Option.bind_some, List.nil_append, List.length_nil, if_pos (show 0 + l.length < 140737488355328 by omega)]
  refine Ev.bind (a := l.all (· == 0)) (Ev.congr (f := fun k => rubricref5_Dec_zero.l0 k 0 n l s) (fun k => rfl) (by simpa using rzero_l0 n l s hl l.length 0 (by omega))) ?_
  cases hz : l.all (· == 0) with
  | true => simpa using Ev.now _
  | false => simpa using Ev.now _
theorem rcanon_l2 (n : Bool) (l : List Int) (s : Nat) (hl : l.length ≤ 1048576) (hs : s ≤ l.length) : Ev (fun k => rubricref5_canon.l2 k n l (s : Int)) (n && !(padH s l).all (· == 0), padH s l, (s : Int)) := by
  unfold padH
  split
  · refine Ev_succ ?_
    simp only [rubricref5_canon.l2]
    rw [w64 (x := (s : Int) + 1) (by omega) (by omega)]
    simp only [if_pos (show (l.length : Int) < (s : Int) + 1 by omega), Option.bind_some, List.length_singleton, if_pos (show 1 + l.length < 140737488355328 by omega), List.singleton_append]
    exact rcanon_end n (0 :: l) s (by simp only [List.length_cons]; omega) (by simp only [List.length_cons]; omega) (by omega)
  · exact rcanon_end n l s (by omega) (by omega) (by omega)
theorem rcanon_l1 (n : Bool) (s : Nat) {r : Bool × List Int × Int} : ∀ (l : List Int), l.length ≤ 1048576 → s ≤ l.length → Ev (fun k => rubricref5_canon.l2 k n (trimH s l) (s : Int)) r → Ev (fun k => rubricref5_canon.l1 k n l (s : Int)) r
  | [], hl, hs, h => by
    refine Ev_succ ?_
    simp only [rubricref5_canon.l1, List.length_nil]
    rw [w64 (by omega) (by omega)]
    simp only [if_neg (show ¬ ((0 : Nat) : Int) - (s : Int) > 1 by omega)]
    exact Ev.step (fun k => rfl) h
  | x :: t, hl, hs, h => by
    refine Ev_succ ?_
    simp only [rubricref5_canon.l1]
    rw [w64 (x := ((x :: t).length : Int) - (s : Int)) (by omega) (by omega)]
    simp only [List.length_cons] at hl hs
    by_cases h1 : s + 1 < t.length + 1
    · have g1 : ((x :: t).length : Int) - (s : Int) > 1 := by simp only [List.length_cons]; omega
      have g2 : (0 : Int) < ((x :: t).length : Int) := by simp only [List.length_cons]; omega
      have g3 : (1 : Int) ≤ ((x :: t).length : Int) := by simp only [List.length_cons]; omega
      have e : rd (x :: t) 0 = x := rfl
      simp only [if_pos g1, if_pos g2, e, if_pos g3]
      by_cases h2 : x = 0
      · simp only [if_pos h2, List.drop_one, List.tail_cons]
        simp only [trimH] at h
        rw [if_pos ⟨h1, h2⟩] at h
        exact rcanon_l1 n s t (by omega) (by omega) h
      · simp only [if_neg h2]
        simp only [trimH] at h
        rw [if_neg (fun hh => h2 hh.2)] at h
        exact Ev.step (fun k => rfl) h
    · have g1 : ¬ ((x :: t).length : Int) - (s : Int) > 1 := by simp only [List.length_cons]; omega
      simp only [if_neg g1]
      simp only [trimH] at h
      rw [if_neg (fun hh => h1 hh.1)] at h
      exact Ev.step (fun k => rfl) h
theorem rcanon_l0 (n : Bool) {r : Bool × List Int × Int} : ∀ (s : Nat) (l : List Int), l.length ≤ 1048576 → s ≤ l.length → Ev (fun k => rubricref5_canon.l1 k n (trimT l s).1 ((trimT l s).2 : Int)) r → Ev (fun k => rubricref5_canon.l0 k n l (s : Int)) r
  | 0, l, hl, hs, h => by
    refine Ev_succ ?_
    simp only [rubricref5_canon.l0, if_neg (show ¬ ((0 : Nat) : Int) > 0 by omega)]
    exact Ev.step (fun k => rfl) h
  | s + 1, l, hl, hs, h => by
    refine Ev_succ ?_
    simp only [rubricref5_canon.l0]
    rw [w64 (x := (l.length : Int) - 1) (by omega) (by omega)]
    simp only [if_pos (show ((s + 1 : Nat) : Int) > 0 by omega), if_pos (show (l.length : Int) > 0 by omega), if_pos (show 0 ≤ (l.length : Int) - 1 by omega), if_pos (show (l.length : Int) - 1 < (l.length : Int) by omega), if_pos (show (l.length : Int) - 1 ≤ (l.length : Int) by omega)]
    have e : rd l ((l.length : Int) - 1) = l.getD (l.length - 1) 0 := by
      unfold rd
      rw [show ((l.length : Int) - 1).toNat = l.length - 1 by omega]
    have e2 : ((l.length : Int) - 1).toNat = l.length - 1 := by omega
    rw [e, e2]
    simp only [trimT] at h
    by_cases h0 : l.getD (l.length - 1) 0 = 0
    · rw [if_pos h0] at h
      simp only [if_pos h0]
      rw [w64 (x := ((s + 1 : Nat) : Int) - 1) (by omega) (by omega), show ((s + 1 : Nat) : Int) - 1 = (s : Int) by omega]
      exact rcanon_l0 n s (l.take (l.length - 1)) (by simp; omega) (by simp; omega) h
    · rw [if_neg h0] at h
      simp only [if_neg h0]
      exact Ev.step (fun k => rfl) h
theorem rcanon_ev (n : Bool) (l : List Int) (s : Nat) {r : Bool × List Int × Int} (h : dec_canon.f n l (s : Int) = some r) : Ev (fun k => rubricref5_canon.f k n l (s : Int)) r := by
  unfold dec_canon.f at h
  split at h
  · rename_i hg
    obtain ⟨h1, h2, h3, h4⟩ := hg
    rw [Int.toNat_natCast] at h
    injection h with h
    subst h
    have ht := trimT_len l s (by omega)
    have hh := trimH_len (trimT l s).2 (trimT l s).1 (by omega)
    refine rcanon_l0 n s l h2 (by omega) (rcanon_l1 n _ _ (by omega) (by omega) ?_)
    have hle : (trimH (trimT l s).2 (trimT l s).1).length ≤ (trimT l s).1.length := by
      generalize (trimT l s).2 = s1
      generalize (trimT l s).1 = l1
      induction l1 with
      | nil => simp [trimH]
      | cons x t ih =>
        simp only [trimH]
        split
        · simp only [List.length_cons]
          omega
        · exact Nat.le_refl _
    exact rcanon_l2 n _ _ (by omega) hh
  · cases h

end Go.Proofs.YtnafjabpkbahdaaDoor.B
