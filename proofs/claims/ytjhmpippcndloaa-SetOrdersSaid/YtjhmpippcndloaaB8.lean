import Derived.Test.YtjhmpippcndloaaB6
import Derived.Test.YtjhmpippcndloaaPrx11
namespace Go.Proofs.Ytjhmpippcndloaa.B
open Go.RowKit Go.Proofs.Ytjhmpippcndloaa Go.Proofs.Ytjhmpippcndloaa.G Go.Proofs.Ytjhmpippcndloaa.Pr Go.Proofs.YtjhmpippcndloaaW.PrintWords Go.Proofs.YtjhmpippcndloaaW.PrintLast
set_option linter.unusedVariables false
set_option linter.unusedSimpArgs false
/-! ### SetOrders -/
theorem same_clip {a b : List S24} (h : ∀ r, 0 ≤ r → r ≤ topL → (hasP a r ↔ hasP b r)) : ofL a = ofL b := canon_ext _ _ (ofL_canon a) (ofL_canon b) (fun r => by
  rw [ofL_has, ofL_has]
  exact ⟨fun hh => ⟨(h r hh.2.1 hh.2.2).1 hh.1, hh.2⟩, fun hh => ⟨(h r hh.2.1 hh.2.2).2 hh.1, hh.2⟩⟩)
theorem ofL_perm {a b : List S24} (h : a.Perm b) : ofL a = ofL b := same_clip (fun r _ _ => has_perm h r)
theorem ofL_app (a b : List S24) : ofL (ofL a ++ ofL b) = ofL (a ++ b) := same_clip (fun r h0 h1 => by
  rw [has_append, has_append, ofL_has, ofL_has]
  exact ⟨fun h => h.elim (fun h => .inl h.1) (fun h => .inr h.1), fun h => h.elim (fun h => .inl ⟨h, h0, h1⟩) (fun h => .inr ⟨h, h0, h1⟩)⟩)
theorem same_true (a : List S24) (hl : a.length ≤ 1099511627776) : Ev (fun k => set_Same.f k a a) true := by
  have h := same_ev a a hl
  rwa [decide_eq_true rfl] at h
theorem orders_end (l : List S24) (a1 : Int) (h1 : l.length ≤ 100) (h2 : 0 ≤ a1) (h3 : a1 ≤ (l.length : Int)) (x6 : List S24) (h6 : x6 = l.reverse) :
    Ev (fun k => rubriclaw7_SetOrders.l1 k l a1 (ofL l) x6 (ofL l) (l.length : Int)) true := by
  subst h6
  have hl := ofL_length l
  have e1 : ofL l.reverse = ofL l := ofL_perm (List.reverse_perm l)
  have er := of_ev l.reverse (by rw [List.length_reverse]; omega)
  rw [e1] at er
  have es := same_true (ofL l) (by omega)
  have ta := ofL_length (l.take a1.toNat)
  have tb := ofL_length (l.drop a1.toNat)
  rw [List.length_take] at ta
  rw [List.length_drop] at tb
  have eu := union_ev (ofL (l.take a1.toNat)) (ofL (l.drop a1.toNat)) (by omega) (by omega)
  rw [ofL_app, List.take_append_drop] at eu
  have eo := of_ev (ofL l) (by omega)
  rw [ofL_of_canon (ofL_canon l)] at eo
  refine Ev_succ ?_
  simp only [rubriclaw7_SetOrders.l1, if_neg (Int.lt_irrefl _)]
  refine Ev.bind er (Ev.bind es ?_)
  simp only [if_true]
  refine Ev.bind es ?_
  simp only [if_true, if_pos h2, if_pos h3]
  refine Ev.bind (of_ev _ (by rw [List.length_take]; omega)) (Ev.bind (of_ev _ (by rw [List.length_drop]; omega)) (Ev.bind eu (Ev.bind es ?_)))
  simp only [if_true]
  exact Ev.bind eo (Ev.bind es (Ev.now _))
theorem orders_l1 (l : List S24) (a1 : Int) (h1 : l.length ≤ 100) (h2 : 0 ≤ a1) (h3 : a1 ≤ (l.length : Int)) : ∀ (d i : Nat), i + d = l.length → Ev (fun k => rubriclaw7_SetOrders.l1 k l a1 (ofL l) l.reverse (ofL (l.take i)) (i : Int)) true
  | 0, i, hi => by
    rw [List.take_of_length_le (by omega), show i = l.length by omega]
    exact orders_end l a1 h1 h2 h3 _ rfl
  | d + 1, i, hi => by
    have hlt : i < l.length := by omega
    have ta := ofL_length (l.take i)
    rw [List.length_take] at ta
    have tn := ofL_length [l[i]]
    have eu := union_ev (ofL (l.take i)) (ofL [l[i]]) (by omega) (by simp only [List.length_cons, List.length_nil] at tn; omega)
    rw [ofL_app, List.take_append_getElem hlt] at eu
    have eo : Ev (fun k => set_Of.f k [(⟨l[i].f0, l[i].f1⟩ : S24)]) (ofL [l[i]]) := of_ev [l[i]] (by simp)
    refine Ev_succ ?_
    simp only [rubriclaw7_SetOrders.l1, if_pos (show (i : Int) < (l.length : Int) by omega), if_pos (show (0 : Int) ≤ (i : Int) by omega), rdT hlt, nxt hlt (show l.length ≤ 1099511627776 by omega)]
    exact Ev.bind eo (Ev.bind eu (orders_l1 l a1 h1 h2 h3 d (i + 1) (by omega)))
theorem ofL_nil : ofL [] = [] := ofL_of_canon Canon.nil
theorem rev_take {l : List S24} {i : Nat} (h : i < l.length) : (l.drop (i + 1)).reverse ++ [l[i]] = (l.drop i).reverse := by
  rw [List.drop_eq_getElem_cons h, List.reverse_cons]
theorem orders_l0 (l : List S24) (a1 : Int) (h1 : l.length ≤ 100) (h2 : 0 ≤ a1) (h3 : a1 ≤ (l.length : Int)) : ∀ (i : Nat), i ≤ l.length → Ev (fun k => rubriclaw7_SetOrders.l0 k l a1 (ofL l) (l.drop i).reverse ((i : Int) - 1)) true
  | 0, _ => by
    refine Ev_succ ?_
    simp only [rubriclaw7_SetOrders.l0, if_neg (show ¬ (((0 : Nat) : Int) - 1) ≥ 0 by decide)]
    have e := of_ev [] (by simp)
    have t := orders_l1 l a1 h1 h2 h3 l.length 0 (by omega)
    exact Ev.bind e t
  | i + 1, hi => by
    have hlt : i < l.length := by omega
    have e1 : ((i + 1 : Nat) : Int) - 1 = (i : Int) := by omega
    have hlen : (l.drop (i + 1)).reverse.length < 17592186044416 := by rw [List.length_reverse, List.length_drop]; omega
    refine Ev_succ ?_
    rw [e1]
    have ew : wrap64 ((i : Int) - 1) = (i : Int) - 1 := w64 (by omega) (by omega)
    simp only [rubriclaw7_SetOrders.l0, if_pos (show (i : Int) ≥ 0 by omega), if_pos (show (0 : Int) ≤ (i : Int) by omega), if_pos (show (i : Int) < (l.length : Int) by omega), if_pos hlen, rdT hlt, ew]
    have t := orders_l0 l a1 h1 h2 h3 i (by omega)
    rw [← rev_take hlt] at t
    exact t
theorem orders_true (l : List S24) (a1 : Int) : Ev (fun k => rubriclaw7_SetOrders.j0 k l a1 true) true := by
  refine Ev_succ ?_
  simp only [rubriclaw7_SetOrders.j0, if_true]
  exact Ev.now _
theorem orders_j0 (l : List S24) (a1 : Int) (h1 : l.length ≤ 100) (h2 : 0 ≤ a1) (h3 : a1 ≤ (l.length : Int)) : Ev (fun k => rubriclaw7_SetOrders.j0 k l a1 false) true := by
  refine Ev_succ ?_
  have ew : wrap64 ((l.length : Int) - 1) = (l.length : Int) - 1 := w64 (by omega) (by omega)
  simp only [rubriclaw7_SetOrders.j0, Bool.false_eq_true, if_false, ew]
  have t := orders_l0 l a1 h1 h2 h3 l.length (Nat.le_refl _)
  rw [List.drop_of_length_le (Nat.le_refl _), List.reverse_nil] at t
  exact Ev.bind (of_ev l (by omega)) t
theorem orders_ev (l : List S24) (a1 : Int) : Ev (fun k => rubriclaw7_SetOrders.f k l a1) true := by
  have no := orders_true l a1
  unfold rubriclaw7_SetOrders.f
  refine Ev.bind known_ev ?_
  simp only [if_true]
  by_cases h0 : (l.length : Int) > 100
  · simp only [if_pos h0]; exact no
  simp only [if_neg h0]
  by_cases h1 : a1 < 0
  · simp only [if_pos h1]; exact no
  simp only [if_neg h1]
  by_cases h2 : a1 > (l.length : Int)
  · simp only [decide_eq_true h2]; exact no
  simp only [decide_eq_false h2]
  exact orders_j0 l a1 (by omega) (by omega) (by omega)

end Go.Proofs.Ytjhmpippcndloaa.B
