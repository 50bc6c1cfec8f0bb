import Derived.Test.YtjhmpippcndloaaB6
import Derived.Test.YtjhmpippcndloaaPrx9
import Derived.Test.YtjhmpippcndloaaPrx10
namespace Go.Proofs.Ytjhmpippcndloaa.B
open Go.RowKit Go.Proofs.Ytjhmpippcndloaa Go.Proofs.Ytjhmpippcndloaa.G Go.Proofs.Ytjhmpippcndloaa.Pr Go.Proofs.YtjhmpippcndloaaW.PrintWords Go.Proofs.YtjhmpippcndloaaW.PrintLast
set_option linter.unusedVariables false
set_option linter.unusedSimpArgs false
/-! ### SetEdges -/
theorem right_l0 (s : List S24) (hs : Canon s) (hl : s.length ≤ 1099511627776) : ∀ (d i : Nat), i + d = s.length → Ev (fun k => set_Set_Right.l0 k s s (s.length : Int) (i : Int)) true
  | 0, i, hi => by
    refine Ev_succ ?_
    simp only [set_Set_Right.l0, if_neg (show ¬ (i : Int) < (s.length : Int) by omega)]
    exact Ev.now _
  | d + 1, i, hi => by
    have hlt : i < s.length := by omega
    have hx := hs.each _ (List.getElem_mem hlt)
    unfold topL at hx
    have nx := right_l0 s hs hl d (i + 1) (by omega)
    refine Ev_succ ?_
    simp only [set_Set_Right.l0, if_pos (show (i : Int) < (s.length : Int) by omega), if_pos (show (0 : Int) ≤ (i : Int) by omega), rdT hlt, nxt hlt hl, if_neg (show ¬ s[i].f0 < 0 by omega), if_neg (show ¬ s[i].f1 > 1114111 by omega), if_neg (show ¬ s[i].f0 > s[i].f1 by omega)]
    by_cases h0 : i = 0
    · simp only [if_neg (show ¬ (i : Int) > 0 by omega)]
      exact nx
    · have hlt' : i - 1 < s.length := by omega
      have e : wrap64 ((i : Int) - 1) = ((i - 1 : Nat) : Int) := by rw [w64 (by omega) (by omega)]; omega
      have ap := (List.pairwise_iff_getElem.1 hs.apart) (i - 1) i hlt' hlt (by omega)
      have ew : wrap32 (s[i].f0 - 1) = s[i].f0 - 1 := w32 (by omega) (by omega)
      simp only [if_pos (show (i : Int) > 0 by omega), e, if_pos (show (0 : Int) ≤ ((i - 1 : Nat) : Int) by omega), if_pos (show ((i - 1 : Nat) : Int) < (s.length : Int) by omega), rdT hlt', ew, if_neg (show ¬ s[i].f0 - 1 ≤ s[i - 1].f1 by omega)]
      exact nx
theorem right_ev (s : List S24) (hs : Canon s) (hl : s.length ≤ 1099511627776) : Ev (fun k => set_Set_Right.f k s) true := right_l0 s hs hl s.length 0 (by omega)
def clipN (x : S24) : Int := if x.f1 > 1114111 then (if x.f0 ≤ 1114111 then 1114111 - x.f0 + 1 else 0) else x.f1 - x.f0 + 1
theorem clipN_le (x : S24) (h : 0 ≤ x.f0 ∧ x.f0 ≤ x.f1 ∧ x.f1 ≤ 2000000) : 0 ≤ clipN x ∧ clipN x ≤ 2000001 := by
  unfold clipN
  split
  · split <;> omega
  · omega
theorem edges_l0 (x0 x2 n : Int) (s L : List S24) (e0 e1 : Int) (i : Nat) (hi : i < L.length) (hL : L.length ≤ 1000) (hx : 0 ≤ L[i].f0 ∧ L[i].f0 ≤ L[i].f1 ∧ L[i].f1 ≤ 2000000) (hn : 0 ≤ n ∧ n ≤ 1000000000)
    (h : Ev (fun k => rubriclaw7_SetEdges.l0 k x0 x2 s (n + clipN L[i]) L (L.length : Int) ((i + 1 : Nat) : Int) e0 e1) true) : Ev (fun k => rubriclaw7_SetEdges.l0 k x0 x2 s n L (L.length : Int) (i : Int) e0 e1) true := by
  refine Ev_succ ?_
  simp only [rubriclaw7_SetEdges.l0, if_pos (show (i : Int) < (L.length : Int) by omega), if_pos (show (0 : Int) ≤ (i : Int) by omega), rdT hi, nxt hi (show L.length ≤ 1099511627776 by omega)]
  unfold clipN at h
  by_cases c1 : L[i].f1 > 1114111
  · simp only [if_pos c1] at h ⊢
    by_cases c2 : L[i].f0 ≤ 1114111
    · have e1 : wrap32 (1114111 - L[i].f0) = 1114111 - L[i].f0 := w32 (by omega) (by omega)
      have e2 : wrap64 (1114111 - L[i].f0) = 1114111 - L[i].f0 := w64 (by omega) (by omega)
      have e3 : wrap64 (n + (1114111 - L[i].f0)) = n + (1114111 - L[i].f0) := w64 (by omega) (by omega)
      have e4 : wrap64 (n + (1114111 - L[i].f0) + 1) = n + (1114111 - L[i].f0 + 1) := by rw [w64 (by omega) (by omega)]; omega
      simp only [if_pos c2, e1, e2, e3, e4] at h ⊢
      exact h
    · simp only [if_neg c2, Int.add_zero] at h ⊢
      exact h
  · simp only [if_neg c1, if_pos hx.2.1] at h ⊢
    have e1 : wrap32 (L[i].f1 - L[i].f0) = L[i].f1 - L[i].f0 := w32 (by omega) (by omega)
    have e2 : wrap64 (L[i].f1 - L[i].f0) = L[i].f1 - L[i].f0 := w64 (by omega) (by omega)
    have e3 : wrap64 (n + (L[i].f1 - L[i].f0)) = n + (L[i].f1 - L[i].f0) := w64 (by omega) (by omega)
    have e4 : wrap64 (n + (L[i].f1 - L[i].f0) + 1) = n + (L[i].f1 - L[i].f0 + 1) := by rw [w64 (by omega) (by omega)]; omega
    simp only [e1, e2, e3, e4]
    exact h
theorem edges_j3 (x0 n m : Int) (s : List S24) (hs : Canon s) (hl : s.length ≤ 1000) (hm : (s.length : Int) = m) (hn : sizeL s = n) (h0 : hasP s x0) (h1 : ¬ hasP s (x0 - 1)) (hx : 0 ≤ x0) (hx' : x0 ≤ 1114111) : Ev (fun k => rubriclaw7_SetEdges.j3 k x0 s n m) true := by
  refine Ev_succ ?_
  simp only [rubriclaw7_SetEdges.j3, if_pos hm]
  refine Ev.bind (size_ev s hs (by omega)) ?_
  simp only [if_pos hn]
  refine Ev.bind (right_ev s hs (by omega)) ?_
  have ew : wrap32 (x0 - 1) = x0 - 1 := w32 (by omega) (by omega)
  simp only [if_true, ew, has_ev s x0 (by omega), has_ev s (x0 - 1) (by omega), Option.bind_some, decide_eq_true h0, decide_eq_false h1, Bool.not_false]
  exact Ev.now _
/-- The two ranges, A ahead of B: what the set of them is. -/
theorem edges_set (a0 a1 a2 a3 : Int) (h0 : 0 ≤ a0) (h0' : a0 ≤ 1114111) (h1 : 1 ≤ a1) (h2 : 0 ≤ a2) (h3 : 1 ≤ a3) :
    ∃ s : List S24, ofL [⟨a0 + a1 + a2, a0 + a1 + a2 + a3 - 1⟩, ⟨a0, a0 + a1 - 1⟩] = s ∧ (s.length : Int) = (if a2 = 0 then 1 else if a0 + a1 + a2 > 1114111 then 1 else 2) ∧
      sizeL s = clipN ⟨a0, a0 + a1 - 1⟩ + clipN ⟨a0 + a1 + a2, a0 + a1 + a2 + a3 - 1⟩ := by
  obtain ⟨t, ht⟩ : ∃ t, (t = topL ∧ topL ≤ a0 + a1 + a2 + a3 - 1) ∨ (t = a0 + a1 + a2 + a3 - 1 ∧ a0 + a1 + a2 + a3 - 1 ≤ topL) := by
    by_cases h : topL ≤ a0 + a1 + a2 + a3 - 1
    · exact ⟨_, .inl ⟨rfl, h⟩⟩
    · exact ⟨_, .inr ⟨rfl, by omega⟩⟩
  obtain ⟨u, hu⟩ : ∃ u, (u = topL ∧ topL ≤ a0 + a1 - 1) ∨ (u = a0 + a1 - 1 ∧ a0 + a1 - 1 ≤ topL) := by
    by_cases h : topL ≤ a0 + a1 - 1
    · exact ⟨_, .inl ⟨rfl, h⟩⟩
    · exact ⟨_, .inr ⟨rfl, by omega⟩⟩
  unfold topL at ht hu
  by_cases c1 : a2 = 0
  · refine ⟨[⟨a0, t⟩], ofL_two _ _ _ (canon_one _ h0 (by simp only; omega) (by simp only; unfold topL; omega)) (fun r => ?_), ?_, ?_⟩
    · rw [has_one, has_cons, has_one]
      simp only
      unfold topL
      omega
    · rw [if_pos c1]; rfl
    · simp only [sizeL, clipN]
      subst c1
      repeat' split
      all_goals omega
  · by_cases c2 : a0 + a1 + a2 > 1114111
    · refine ⟨[⟨a0, u⟩], ofL_two _ _ _ (canon_one _ h0 (by simp only; omega) (by simp only; unfold topL; omega)) (fun r => ?_), ?_, ?_⟩
      · rw [has_one, has_cons, has_one]
        simp only
        unfold topL
        omega
      · rw [if_neg c1, if_pos c2]; rfl
      · simp only [sizeL, clipN]
        repeat' split
        all_goals omega
    · refine ⟨[⟨a0, a0 + a1 - 1⟩, ⟨a0 + a1 + a2, t⟩], ofL_two _ _ _ ⟨fun y hy => ?_, ?_⟩ (fun r => ?_), ?_, ?_⟩
      · unfold topL
        rcases List.mem_cons.1 hy with rfl | hy
        · simp only; omega
        · obtain rfl := List.mem_singleton.1 hy
          simp only; omega
      · refine List.pairwise_cons.2 ⟨fun y hy => ?_, List.pairwise_singleton _ _⟩
        obtain rfl := List.mem_singleton.1 hy
        simp only; omega
      · rw [has_cons, has_one, has_cons, has_one]
        simp only
        unfold topL
        omega
      · rw [if_neg c1, if_neg c2]; rfl
      · simp only [sizeL, clipN]
        repeat' split
        all_goals omega
theorem edges_j0 (a0 a1 a2 a3 : Int) (h0 : 0 ≤ a0) (h0' : a0 ≤ 1114111) (h1 : 1 ≤ a1) (h1' : a1 ≤ 1000) (h2 : 0 ≤ a2) (h2' : a2 ≤ 1000) (h3 : 1 ≤ a3) (h3' : a3 ≤ 1000) : Ev (fun k => rubriclaw7_SetEdges.j0 k a0 a1 a2 a3 false) true := by
  have e1 : wrap32 (a0 + a1) = a0 + a1 := w32 (by omega) (by omega)
  have e2 : wrap32 (a0 + a1 + a2) = a0 + a1 + a2 := w32 (by omega) (by omega)
  have e3 : wrap32 (a0 + a1 + a2 + a3) = a0 + a1 + a2 + a3 := w32 (by omega) (by omega)
  have e4 : wrap32 (a0 + a1 + a2 + a3 - 1) = a0 + a1 + a2 + a3 - 1 := w32 (by omega) (by omega)
  have e5 : wrap32 (a0 + a1 - 1) = a0 + a1 - 1 := w32 (by omega) (by omega)
  obtain ⟨s, es, hlen, hsz⟩ := edges_set a0 a1 a2 a3 h0 h0' h1 h2 h3
  have cs : Canon s := es ▸ ofL_canon _
  have ll : s.length ≤ 2 := by rw [← es]; exact ofL_length _
  have hh : hasP s a0 := by
    rw [← es, ofL_has, has_cons, has_one]
    unfold topL
    exact ⟨.inr (by simp only; omega), h0, h0'⟩
  have hn : ¬ hasP s (a0 - 1) := by
    rw [← es, ofL_has, has_cons, has_one]
    simp only
    omega
  have eo : Ev (fun k => set_Of.f k [(⟨a0 + a1 + a2, a0 + a1 + a2 + a3 - 1⟩ : S24), (⟨a0, a0 + a1 - 1⟩ : S24)]) s := es ▸ of_ev _ (by simp)
  refine Ev_succ ?_
  simp only [rubriclaw7_SetEdges.j0, Bool.false_eq_true, if_false, e1, e2, e3, e4, e5, Option.bind_some]
  refine Ev.bind eo ?_
  have b0 := clipN_le ⟨a0, a0 + a1 - 1⟩ (by simp only; omega)
  have b1 := clipN_le ⟨a0 + a1 + a2, a0 + a1 + a2 + a3 - 1⟩ (by simp only; omega)
  refine edges_l0 a0 a2 0 s [⟨a0, a0 + a1 - 1⟩, ⟨a0 + a1 + a2, a0 + a1 + a2 + a3 - 1⟩] _ _ 0 (by simp) (by simp) (by simp only [List.getElem_cons_zero]; omega) (by omega) ?_
  refine edges_l0 a0 a2 _ s [⟨a0, a0 + a1 - 1⟩, ⟨a0 + a1 + a2, a0 + a1 + a2 + a3 - 1⟩] _ _ 1 (by simp) (by simp) (by simp only [List.getElem_cons_succ, List.getElem_cons_zero]; omega) (by simp only [List.getElem_cons_zero]; omega) ?_
  simp only [List.getElem_cons_succ, List.getElem_cons_zero]
  rw [Int.zero_add, ← hsz]
  refine Ev_succ ?_
  simp only [rubriclaw7_SetEdges.l0, List.length_cons, List.length_nil, if_neg (show ¬ (((1 + 1 : Nat) : Int) < ((0 + 1 + 1 : Nat) : Int)) by decide)]
  have done := fun m hm => edges_j3 a0 (sizeL s) m s cs (by omega) hm rfl hh hn h0 h0'
  by_cases c1 : a2 = 0
  · rw [if_pos c1] at hlen
    simp only [if_pos c1]
    refine Ev_succ ?_
    simp only [rubriclaw7_SetEdges.j2, if_true]
    exact done 1 hlen
  · rw [if_neg c1] at hlen
    simp only [if_neg c1]
    by_cases c2 : a0 + a1 + a2 > 1114111
    · rw [if_pos c2] at hlen
      refine Ev_succ ?_
      simp only [rubriclaw7_SetEdges.j2, decide_eq_true c2, if_true]
      exact done 1 hlen
    · rw [if_neg c2] at hlen
      refine Ev_succ ?_
      simp only [rubriclaw7_SetEdges.j2, decide_eq_false c2, Bool.false_eq_true, if_false]
      exact done 2 hlen
theorem edges_true (a0 a1 a2 a3 : Int) : Ev (fun k => rubriclaw7_SetEdges.j0 k a0 a1 a2 a3 true) true := by
  refine Ev_succ ?_
  simp only [rubriclaw7_SetEdges.j0, if_true]
  exact Ev.now _
theorem edges_ev (a0 a1 a2 a3 : Int) : Ev (fun k => rubriclaw7_SetEdges.f k a0 a1 a2 a3) true := by
  have no := edges_true a0 a1 a2 a3
  unfold rubriclaw7_SetEdges.f
  refine Ev.bind known_ev ?_
  simp only [if_true]
  by_cases h0 : a0 < 0
  · simp only [if_pos h0]; exact no
  by_cases h1 : a1 < 1
  · simp only [if_neg h0, if_pos h1]; exact no
  by_cases h2 : a2 < 0
  · simp only [if_neg h0, if_neg h1, if_pos h2]; exact no
  by_cases h3 : a3 < 1
  · simp only [if_neg h0, if_neg h1, if_neg h2, if_pos h3]; exact no
  by_cases h4 : a0 > 1114111
  · simp only [if_neg h0, if_neg h1, if_neg h2, if_neg h3, if_pos h4]; exact no
  by_cases h5 : a1 > 1000
  · simp only [if_neg h0, if_neg h1, if_neg h2, if_neg h3, if_neg h4, if_pos h5]; exact no
  by_cases h6 : a2 > 1000
  · simp only [if_neg h0, if_neg h1, if_neg h2, if_neg h3, if_neg h4, if_neg h5, if_pos h6]; exact no
  simp only [if_neg h0, if_neg h1, if_neg h2, if_neg h3, if_neg h4, if_neg h5, if_neg h6]
  by_cases h7 : a3 > 1000
  · simp only [decide_eq_true h7]; exact no
  simp only [decide_eq_false h7]
  exact edges_j0 a0 a1 a2 a3 (by omega) (by omega) (by omega) (by omega) (by omega) (by omega) (by omega) (by omega)

end Go.Proofs.Ytjhmpippcndloaa.B
