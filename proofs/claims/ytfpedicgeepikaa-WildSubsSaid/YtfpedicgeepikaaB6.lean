import Derived.Test.YtfpedicgeepikaaB5
namespace Go.Proofs.Ytfpedicgeepikaa.B
open Go.RowKit Go.Proofs.Ytfpedicgeepikaa Go.Proofs.Ytfpedicgeepikaa.G Go.Proofs.Ytfpedicgeepikaa.Pr Go.Proofs.YtfpedicgeepikaaW.PrintWords Go.Proofs.YtfpedicgeepikaaW.PrintLast
set_option linter.unusedVariables false
set_option linter.unusedSimpArgs false
theorem sub_l0 (h : Int) (n : ByteArray) (l : List ByteArray) (p : Int) (h' : Int) (n' : ByteArray) (l' : List ByteArray) (p' : Int) (hl : l.length ≤ 1048576) (hl' : l'.length ≤ 1048576) (S : List ByteArray) (hS : S.length ≤ 4194304) :
    ∀ (d i : Nat), i + d = S.length → Ev (fun k => wild_Sub.l0 k S (S.length : Int) (i : Int) h n l p h' n' l' p') ((S.drop i).all fun s => !decide (allowsP h n l s) || decide (allowsP h' n' l' s))
  | 0, i, hi => by
    rw [List.drop_of_length_le (by omega)]
    refine Ev_succ ?_
    simp only [wild_Sub.l0, if_neg (show ¬ (i : Int) < (S.length : Int) by omega), List.all_nil]
    exact Ev.now _
  | d + 1, i, hi => by
    have hd : S.drop i = S[i]'(by omega) :: S.drop (i + 1) := List.drop_eq_getElem_cons (by omega)
    have hg : rdOf ByteArray.empty S (i : Int) = S[i]'(by omega) := by
      unfold rdOf
      rw [Int.toNat_natCast, List.getD_eq_getElem?_getD, List.getElem?_eq_getElem (by omega)]
      rfl
    have hw : wrap64 ((i : Int) + 1) = ((i + 1 : Nat) : Int) := by rw [w64 (x := (i : Int) + 1) (by omega) (by omega)]; omega
    have ih := sub_l0 h n l p h' n' l' p' hl hl' S hS d (i + 1) (by omega)
    refine Ev_succ ?_
    simp only [wild_Sub.l0, if_pos (show (i : Int) < (S.length : Int) by omega), if_pos (show (0 : Int) ≤ (i : Int) by omega), hg, hw]
    refine Ev.bind (allows_ev h n l p _ (by omega)) ?_
    rw [hd, List.all_cons]
    cases decide (allowsP h n l (S[i]'(by omega))) with
    | false =>
      simp only [Bool.false_eq_true, if_false, Bool.not_false, Bool.true_or, Bool.true_and]
      exact ih
    | true =>
      simp only [if_true, Bool.not_true, Bool.false_or]
      refine Ev.bind (allows_ev h' n' l' p' _ (by omega)) ?_
      cases decide (allowsP h' n' l' (S[i]'(by omega))) with
      | true =>
        simp only [if_true, Bool.true_and]
        exact ih
      | false =>
        simp only [Bool.false_eq_true, if_false, Bool.false_and]
        exact Ev.now _
def subP (h : Int) (n : ByteArray) (l : List ByteArray) (h' : Int) (n' : ByteArray) (l' : List ByteArray) : Bool :=
  !(decide (h = 1 ∨ h = 2) && !decide (h' = 1 ∨ h' = 2)) && (specL n l n' l').all fun s => !decide (allowsP h n l s) || decide (allowsP h' n' l' s)
theorem sub_ev (h : Int) (n : ByteArray) (l : List ByteArray) (p : Int) (h' : Int) (n' : ByteArray) (l' : List ByteArray) (p' : Int) (hl : l.length ≤ 1048576) (hl' : l'.length ≤ 1048576) :
    Ev (fun k => wild_Sub.f k h n l p h' n' l' p') (subP h n l h' n' l') := by
  have hs := specL_length n l n' l'
  have go : Ev (fun k => wild_Sub.j0 k false h n l p h' n' l' p') ((specL n l n' l').all fun s => !decide (allowsP h n l s) || decide (allowsP h' n' l' s)) := by
    refine Ev_succ ?_
    simp only [wild_Sub.j0, Bool.false_eq_true, if_false]
    refine Ev.bind (special_ev h n l p h' n' l' p' hl hl') ?_
    have := sub_l0 h n l p h' n' l' p' hl hl' (specL n l n' l') (by omega) (specL n l n' l').length 0 (by omega)
    rw [List.drop_zero] at this
    exact this
  unfold subP
  unfold wild_Sub.f
  simp only [most_eq, Option.bind_some]
  cases decide (h = 1 ∨ h = 2) with
  | false =>
    simp only [Bool.false_eq_true, if_false, Bool.false_and, Bool.not_false, Bool.true_and]
    exact go
  | true =>
    simp only [if_true]
    cases decide (h' = 1 ∨ h' = 2) with
    | true => exact go
    | false =>
      refine Ev_succ ?_
      simp only [wild_Sub.j0, Bool.not_false, if_true]
      exact Ev.now _

end Go.Proofs.Ytfpedicgeepikaa.B
