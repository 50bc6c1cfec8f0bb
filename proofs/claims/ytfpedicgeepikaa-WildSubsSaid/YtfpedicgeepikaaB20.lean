import Derived.Test.YtfpedicgeepikaaB19
import Derived.Test.YtfpedicgeepikaaPrx5
namespace Go.Proofs.Ytfpedicgeepikaa.B
open Go.RowKit Go.Proofs.Ytfpedicgeepikaa Go.Proofs.Ytfpedicgeepikaa.G Go.Proofs.Ytfpedicgeepikaa.Pr Go.Proofs.YtfpedicgeepikaaW.PrintWords Go.Proofs.YtfpedicgeepikaaW.PrintLast
set_option linter.unusedVariables false
set_option linter.unusedSimpArgs false
/-! ### WildSubs -/
theorem subs_true (h : Int) (n : ByteArray) (l : List ByteArray) (p : Int) (h' : Int) (n' : ByteArray) (l' : List ByteArray) (p' : Int) (h'' : Int) (n'' : ByteArray) (l'' : List ByteArray) (p'' : Int) :
    Ev (fun k => rubriclaw14_WildSubs.j0 k true h n l p h' n' l' p' h'' n'' l'' p'') true := by
  refine Ev_succ ?_
  simp only [rubriclaw14_WildSubs.j0, if_true]
  exact Ev.now _
theorem sub_true (h : Int) (n : ByteArray) (l : List ByteArray) (p : Int) (h' : Int) (n' : ByteArray) (l' : List ByteArray) (p' : Int) (hl : l.length ≤ 1048576) (hl' : l'.length ≤ 1048576) (H : ∀ s, allowsP h n l s → allowsP h' n' l' s) :
    Ev (fun k => wild_Sub.f k h n l p h' n' l' p') true := by
  have := sub_ev h n l p h' n' l' p' hl hl'
  rwa [(sub_iff h n l h' n' l').2 H] at this
theorem subs_tail (h : Int) (n : ByteArray) (l : List ByteArray) (p : Int) (h' : Int) (n' : ByteArray) (l' : List ByteArray) (p' : Int) (h'' : Int) (n'' : ByteArray) (l'' : List ByteArray) (p'' : Int)
    (hl : l.length ≤ 30) (hl' : l'.length ≤ 30) (hl'' : l''.length ≤ 30) :
    Ev (fun k => rubriclaw14_WildSubs.j1 k false h n l p h' n' l' p' h'' n'' l'' p'') true := by
  refine Ev_succ ?_
  simp only [rubriclaw14_WildSubs.j1, Bool.false_eq_true, if_false]
  refine Ev.bind (sub_ev h n l p h' n' l' p' (by omega) (by omega)) ?_
  cases h1 : subP h n l h' n' l' with
  | false =>
    simp only [Bool.false_eq_true, if_false]
    exact Ev.now _
  | true =>
    simp only [if_true]
    refine Ev.bind (sub_ev h' n' l' p' h'' n'' l'' p'' (by omega) (by omega)) ?_
    cases h2 : subP h' n' l' h'' n'' l'' with
    | false =>
      simp only [Bool.false_eq_true, if_false]
      exact Ev.now _
    | true =>
      simp only [if_true]
      exact Ev.bind (sub_true h n l p h'' n'' l'' p'' (by omega) (by omega) (fun s hs => (sub_iff _ _ _ _ _ _).1 h2 s ((sub_iff _ _ _ _ _ _).1 h1 s hs))) (Ev.now _)
theorem subs_main (h : Int) (n : ByteArray) (l : List ByteArray) (p : Int) (h' : Int) (n' : ByteArray) (l' : List ByteArray) (p' : Int) (h'' : Int) (n'' : ByteArray) (l'' : List ByteArray) (p'' : Int)
    (hl : l.length ≤ 30) (hl' : l'.length ≤ 30) (hl'' : l''.length ≤ 30) :
    Ev (fun k => rubriclaw14_WildSubs.j0 k false h n l p h' n' l' p' h'' n'' l'' p'') true := by
  have tail := subs_tail h n l p h' n' l' p' h'' n'' l'' p'' hl hl' hl''
  have self : Ev (fun k => wild_Sub.f k h n l p h n l p) true := sub_true h n l p h n l p (by omega) (by omega) (fun _ hs => hs)
  have lx := both_len h n l p h' n' l'
  have lu := union_len h n l p h' n' l'
  have sx := both_sem h n l p h' n' l'
  have su := union_sem h n l p h' n' l'
  refine Ev_succ ?_
  simp only [rubriclaw14_WildSubs.j0, Bool.false_eq_true, if_false]
  refine Ev.bind (both_ev h n l p h' n' l' p' (by omega) (by omega)) (Ev.bind (union_ev h n l p h' n' l' p' (by omega) (by omega)) ?_)
  generalize bothP h n l p h' n' l' = X at lx sx
  generalize unionP h n l p h' n' l' = U at lu su
  obtain ⟨x1, x2, x3, x4, x5⟩ := X
  obtain ⟨u1, u2, u3, u4, u5⟩ := U
  simp only at lx lu sx su ⊢
  cases x5 with
  | true =>
    have X1 := sub_true x1 x2 x3 x4 h n l p (by omega) (by omega) (fun s hs => ((sx rfl s).1 hs).1)
    have X2 := sub_true x1 x2 x3 x4 h' n' l' p' (by omega) (by omega) (fun s hs => ((sx rfl s).1 hs).2)
    simp only [if_true]
    refine Ev.bind X1 ?_
    simp only [if_true]
    refine Ev.bind X2 ?_
    simp only [if_true]
    cases u5 with
    | true =>
      have U1 := sub_true h n l p u1 u2 u3 u4 (by omega) (by omega) (fun s hs => (su rfl s).2 (.inl hs))
      have U2 := sub_true h' n' l' p' u1 u2 u3 u4 (by omega) (by omega) (fun s hs => (su rfl s).2 (.inr hs))
      simp only [if_true]
      refine Ev.bind U1 ?_
      simp only [if_true]
      refine Ev.bind U2 ?_
      simp only [if_true]
      refine Ev.bind self ?_
      simp only [Bool.not_true]
      exact tail
    | false =>
      simp only [Bool.false_eq_true, if_false]
      refine Ev.bind self ?_
      simp only [Bool.not_true]
      exact tail
  | false =>
    simp only [Bool.false_eq_true, if_false]
    cases u5 with
    | true =>
      have U1 := sub_true h n l p u1 u2 u3 u4 (by omega) (by omega) (fun s hs => (su rfl s).2 (.inl hs))
      have U2 := sub_true h' n' l' p' u1 u2 u3 u4 (by omega) (by omega) (fun s hs => (su rfl s).2 (.inr hs))
      simp only [if_true]
      refine Ev.bind U1 ?_
      simp only [if_true]
      refine Ev.bind U2 ?_
      simp only [if_true]
      refine Ev.bind self ?_
      simp only [Bool.not_true]
      exact tail
    | false =>
      simp only [Bool.false_eq_true, if_false]
      refine Ev.bind self ?_
      simp only [Bool.not_true]
      exact tail
theorem subs_ev (h : Int) (n : ByteArray) (l : List ByteArray) (p : Int) (h' : Int) (n' : ByteArray) (l' : List ByteArray) (p' : Int) (h'' : Int) (n'' : ByteArray) (l'' : List ByteArray) (p'' : Int) :
    Ev (fun k => rubriclaw14_WildSubs.f k h n l p h' n' l' p' h'' n'' l'' p'') true := by
  have no := subs_true h n l p h' n' l' p' h'' n'' l'' p''
  unfold rubriclaw14_WildSubs.f
  refine Ev.bind known_ev ?_
  simp only [if_true]
  obtain ⟨b1, e1, f1⟩ := few_ev h n l p
  refine Ev.bind e1 ?_
  cases b1 with
  | false =>
    simp only [Bool.false_eq_true, if_false]
    exact no
  | true =>
    simp only [if_true]
    obtain ⟨b2, e2, f2⟩ := few_ev h' n' l' p'
    refine Ev.bind e2 ?_
    cases b2 with
    | false =>
      simp only [Bool.false_eq_true, if_false]
      exact no
    | true =>
      simp only [if_true]
      obtain ⟨b3, e3, f3⟩ := few_ev h'' n'' l'' p''
      refine Ev.bind e3 ?_
      cases b3 with
      | false =>
        simp only [Bool.false_eq_true, if_false]
        exact no
      | true =>
        have l1 := f1 rfl
        have l2 := f2 rfl
        have l3 := f3 rfl
        simp only [if_true]
        refine Ev.bind (right_ev h n l p (by omega)) ?_
        cases decide (rightP h n l p) with
        | false =>
          simp only [Bool.false_eq_true, if_false]
          exact no
        | true =>
          simp only [if_true]
          refine Ev.bind (right_ev h' n' l' p' (by omega)) ?_
          cases decide (rightP h' n' l' p') with
          | false =>
            simp only [Bool.false_eq_true, if_false]
            exact no
          | true =>
            simp only [if_true]
            refine Ev.bind (right_ev h'' n'' l'' p'' (by omega)) ?_
            cases decide (rightP h'' n'' l'' p'') with
            | false => exact no
            | true => exact subs_main h n l p h' n' l' p' h'' n'' l'' p'' l1 l2 l3

end Go.Proofs.Ytfpedicgeepikaa.B
