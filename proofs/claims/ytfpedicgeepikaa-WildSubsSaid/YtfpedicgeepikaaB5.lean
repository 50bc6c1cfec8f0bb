import Derived.Test.YtfpedicgeepikaaB4
namespace Go.Proofs.Ytfpedicgeepikaa.B
open Go.RowKit Go.Proofs.Ytfpedicgeepikaa Go.Proofs.Ytfpedicgeepikaa.G Go.Proofs.Ytfpedicgeepikaa.Pr Go.Proofs.YtfpedicgeepikaaW.PrintWords Go.Proofs.YtfpedicgeepikaaW.PrintLast
set_option linter.unusedVariables false
set_option linter.unusedSimpArgs false
theorem clBoth_ev (h : Int) (n : ByteArray) (l : List ByteArray) (p : Int) (h' : Int) (n' : ByteArray) (l' : List ByteArray) (p' : Int) (hl : l.length ≤ 1048576) (hl' : l'.length ≤ 1048576) (s : ByteArray) :
    Ev (fun k => wild_clBoth.f k (⟨h, n, l, p⟩, ⟨h', n', l', p'⟩) s) (decide (allowsP h n l s) && decide (allowsP h' n' l' s)) := by
  refine Ev.bind (allows_ev h n l p s (by omega)) ?_
  cases decide (allowsP h n l s) with
  | true =>
    simp only [if_true, Bool.true_and]
    exact allows_ev h' n' l' p' s (by omega)
  | false =>
    simp only [Bool.false_eq_true, if_false, Bool.false_and]
    exact Ev.now _
theorem clUnion_ev (h : Int) (n : ByteArray) (l : List ByteArray) (p : Int) (h' : Int) (n' : ByteArray) (l' : List ByteArray) (p' : Int) (hl : l.length ≤ 1048576) (hl' : l'.length ≤ 1048576) (s : ByteArray) :
    Ev (fun k => wild_clUnion.f k (⟨h, n, l, p⟩, ⟨h', n', l', p'⟩) s) (decide (allowsP h n l s) || decide (allowsP h' n' l' s)) := by
  refine Ev.bind (allows_ev h n l p s (by omega)) ?_
  cases decide (allowsP h n l s) with
  | true =>
    simp only [if_true, Bool.true_or]
    exact Ev.now _
  | false =>
    simp only [Bool.false_eq_true, if_false, Bool.false_or]
    exact allows_ev h' n' l' p' s (by omega)
def bothP (h : Int) (n : ByteArray) (l : List ByteArray) (p : Int) (h' : Int) (n' : ByteArray) (l' : List ByteArray) : Int × ByteArray × List ByteArray × Int × Bool :=
  sayP (decide (h = 1 ∨ h = 2) && decide (h' = 1 ∨ h' = 2)) p ((specL n l n' l').filter fun s => decide (allowsP h n l s) && decide (allowsP h' n' l' s)) ((specL n l n' l').filter fun s => !(decide (allowsP h n l s) && decide (allowsP h' n' l' s)))
def unionP (h : Int) (n : ByteArray) (l : List ByteArray) (p : Int) (h' : Int) (n' : ByteArray) (l' : List ByteArray) : Int × ByteArray × List ByteArray × Int × Bool :=
  sayP (decide (h = 1 ∨ h = 2) || decide (h' = 1 ∨ h' = 2)) p ((specL n l n' l').filter fun s => decide (allowsP h n l s) || decide (allowsP h' n' l' s)) ((specL n l n' l').filter fun s => !(decide (allowsP h n l s) || decide (allowsP h' n' l' s)))
theorem specL_length (n : ByteArray) (l : List ByteArray) (n' : ByteArray) (l' : List ByteArray) : (specL n l n' l').length ≤ l.length + l'.length + 3 := by
  have := setL_length (((([⟨#[]⟩] ++ l) ++ [n]) ++ l') ++ [n'])
  simp only [List.length_append, List.length_singleton] at this
  unfold specL
  omega
theorem both_ev (h : Int) (n : ByteArray) (l : List ByteArray) (p : Int) (h' : Int) (n' : ByteArray) (l' : List ByteArray) (p' : Int) (hl : l.length ≤ 1048576) (hl' : l'.length ≤ 1048576) :
    Ev (fun k => wild_Both.f k h n l p h' n' l' p') (bothP h n l p h' n' l') := by
  have hs := specL_length n l n' l'
  have hc := clBoth_ev h n l p h' n' l' p' hl hl'
  refine Ev.bind (special_ev h n l p h' n' l' p' hl hl') ?_
  simp only [most_eq, Option.bind_some]
  unfold bothP
  cases decide (h = 1 ∨ h = 2) with
  | true =>
    simp only [if_true, Bool.true_and]
    exact Ev.bind (sayBoth_ev _ _ hc _ p _ (by omega)) (Ev.now _)
  | false =>
    simp only [Bool.false_eq_true, if_false, Bool.false_and]
    exact Ev.bind (sayBoth_ev _ _ hc _ p _ (by omega)) (Ev.now _)
theorem union_ev (h : Int) (n : ByteArray) (l : List ByteArray) (p : Int) (h' : Int) (n' : ByteArray) (l' : List ByteArray) (p' : Int) (hl : l.length ≤ 1048576) (hl' : l'.length ≤ 1048576) :
    Ev (fun k => wild_Union.f k h n l p h' n' l' p') (unionP h n l p h' n' l') := by
  have hs := specL_length n l n' l'
  have hc := clUnion_ev h n l p h' n' l' p' hl hl'
  refine Ev.bind (special_ev h n l p h' n' l' p' hl hl') ?_
  simp only [most_eq, Option.bind_some]
  unfold unionP
  cases decide (h = 1 ∨ h = 2) with
  | true =>
    simp only [if_true, Bool.true_or]
    exact Ev.bind (sayUnion_ev _ _ hc _ p _ (by omega)) (Ev.now _)
  | false =>
    simp only [Bool.false_eq_true, if_false, Bool.false_or]
    exact Ev.bind (sayUnion_ev _ _ hc _ p _ (by omega)) (Ev.now _)

end Go.Proofs.Ytfpedicgeepikaa.B
