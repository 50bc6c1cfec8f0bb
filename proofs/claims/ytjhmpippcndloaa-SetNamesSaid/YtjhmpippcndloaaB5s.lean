import Derived.Test.YtjhmpippcndloaaB4s
import Derived.Test.YtjhmpippcndloaaPrx6
namespace Go.Proofs.Ytjhmpippcndloaa.B
open Go.RowKit Go.Proofs.Ytjhmpippcndloaa Go.Proofs.Ytjhmpippcndloaa.G Go.Proofs.Ytjhmpippcndloaa.Pr Go.Proofs.YtjhmpippcndloaaW.PrintWords Go.Proofs.YtjhmpippcndloaaW.PrintLast
set_option linter.unusedVariables false
set_option linter.unusedSimpArgs false
/-! ### the set statements' first words -/
theorem ofL_two (x y : S24) (s : List S24) (hs : Canon s) (h : ∀ r, hasP s r ↔ (hasP [x, y] r) ∧ 0 ≤ r ∧ r ≤ topL) : ofL [x, y] = s := canon_ext _ _ (ofL_canon _) hs (fun r => by rw [ofL_has, h r])
theorem canon_one (x : S24) (h0 : 0 ≤ x.f0) (h1 : x.f0 ≤ x.f1) (h2 : x.f1 ≤ topL) : Canon [x] := ⟨fun y hy => by rw [List.mem_singleton.1 hy]; exact ⟨h0, h1, h2⟩, List.pairwise_singleton _ _⟩
theorem known_of : ofL [⟨97, 99⟩, ⟨100, 102⟩] = [⟨97, 102⟩] := ofL_two _ _ _ (canon_one _ (by decide) (by decide) (by decide)) (fun r => by
  rw [has_one, has_cons, has_one]
  simp only
  unfold topL
  omega)
theorem digits_of : ofL [⟨48, 57⟩] = [⟨48, 57⟩] := ofL_of_canon (canon_one _ (by decide) (by decide) (by decide))
theorem tl_ne {a : ByteArray} {l m : List UInt8} (h : a.toList = l) (hne : l ≠ m) : ¬ a.toList = m := fun e => hne (h.symm.trans e)
theorem toList_mk (l : List UInt8) : (⟨l.toArray⟩ : ByteArray).toList = l := by rw [Lib.toList_data]
theorem cat_nd : Ev (fun k => set_Category.f k (⟨#[78, 100]⟩ : ByteArray)) ([⟨48, 57⟩], true) := by
  have ht : (⟨#[78, 100]⟩ : ByteArray).toList = [78, 100] := toList_mk [78, 100]
  unfold set_Category.f
  simp only [if_neg (tl_ne ht (show ([78, 100] : List UInt8) ≠ [76, 117] by decide)), if_neg (tl_ne ht (show ([78, 100] : List UInt8) ≠ [76, 108] by decide)), if_neg (tl_ne ht (show ([78, 100] : List UInt8) ≠ [76] by decide)), if_pos ht, (beq_iff_eq.2 ht : ((⟨#[78, 100]⟩ : ByteArray).toList == ([78, 100] : List UInt8)) = true)]
  refine Ev_succ ?_
  simp only [set_Category.j0, if_true]
  have := of_ev [⟨48, 57⟩] (by decide)
  rw [digits_of] at this
  exact Ev.bind this (Ev.now _)
theorem esc_d : Ev (fun k => set_Escape.f k 100) ([⟨48, 57⟩], true) := by
  refine Ev_succ ?_
  simp only [set_Escape.f, if_neg (show ¬ (100 : Int) = 115 by decide), if_neg (show ¬ (100 : Int) = 105 by decide), if_neg (show ¬ (100 : Int) = 99 by decide), if_true]
  exact Ev.bind cat_nd (Ev.now _)
theorem esc_q : Ev (fun k => set_Escape.f k 113) ([], false) := by
  refine Ev_succ (Ev_succ ?_)
  simp only [set_Escape.f, if_neg (show ¬ (113 : Int) = 115 by decide), if_neg (show ¬ (113 : Int) = 105 by decide), if_neg (show ¬ (113 : Int) = 99 by decide), if_neg (show ¬ (113 : Int) = 100 by decide), if_neg (show ¬ (113 : Int) = 119 by decide), if_neg (show ¬ (113 : Int) = 83 by decide), if_neg (show ¬ (113 : Int) = 73 by decide), if_neg (show ¬ (113 : Int) = 67 by decide), if_neg (show ¬ (113 : Int) = 68 by decide), set_Escape.j0, show ((113 : Int) == 87) = false from rfl, Bool.false_eq_true, if_false]
  exact Ev.now _
theorem known_ev : Ev (fun k => rubriclaw7_known.f k) true := by
  have h1 := of_ev [⟨97, 99⟩, ⟨100, 102⟩] (by decide)
  rw [known_of] at h1
  have c1 : Canon [(⟨97, 102⟩ : S24)] := canon_one _ (by decide) (by decide) (by decide)
  have h2 := size_ev [⟨97, 102⟩] c1 (by decide)
  have h3 := not_ev [⟨97, 102⟩] c1 (by decide)
  have e1 : set_Has.f [⟨97, 102⟩] 101 = some true := by
    rw [has_ev _ _ (by decide), decide_eq_true ((has_one _ _).2 ⟨by decide, by decide⟩)]
  have e2 : set_Has.f (notL 0 [⟨97, 102⟩]) 97 = some false := by
    rw [has_ev _ _ (Nat.le_trans (notL_length _ _) (by decide)), decide_eq_false (fun h => ((not_has c1 97).1 h).2.2 ((has_one _ _).2 ⟨by decide, by decide⟩))]
  have e3 : set_Has.f [⟨48, 57⟩] 53 = some true := by
    rw [has_ev _ _ (by decide), decide_eq_true ((has_one _ _).2 ⟨by decide, by decide⟩)]
  unfold rubriclaw7_known.f
  refine Ev.bind h1 (Ev.bind esc_d (Ev.bind esc_q ?_))
  simp only [List.length_singleton, show ((1 : Nat) : Int) = 1 from rfl, if_true, e1, Option.bind_some]
  refine Ev.bind h2 ?_
  simp only [show sizeL [(⟨97, 102⟩ : S24)] = 6 from rfl, if_true]
  refine Ev.bind h3 ?_
  simp only [e2, Option.bind_some, Bool.false_eq_true, if_false, if_true, e3, Bool.not_false]
  exact Ev.now _

end Go.Proofs.Ytjhmpippcndloaa.B
