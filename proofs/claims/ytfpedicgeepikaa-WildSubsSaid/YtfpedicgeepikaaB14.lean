import Derived.Test.YtfpedicgeepikaaB13
import Derived.Test.YtfpedicgeepikaaPrx3
namespace Go.Proofs.Ytfpedicgeepikaa.B
open Go.RowKit Go.Proofs.Ytfpedicgeepikaa Go.Proofs.Ytfpedicgeepikaa.G Go.Proofs.Ytfpedicgeepikaa.Pr Go.Proofs.YtfpedicgeepikaaW.PrintWords Go.Proofs.YtfpedicgeepikaaW.PrintLast
set_option linter.unusedVariables false
set_option linter.unusedSimpArgs false
theorem known_ev : Ev (fun k => rubriclaw14_known.f k) true := by
  have hb := both_ev 2 tW [] 2 3 ⟨#[]⟩ (setL [tW, uW, ⟨#[]⟩]) 1 (by decide) (Nat.le_trans (setL_length _) (by decide))
  rw [known_both] at hb
  have a1 := allows_ev 2 tW [] 2 tW (by decide)
  have a2 := allows_ev 2 tW [] 2 ⟨#[]⟩ (by decide)
  have a3 := allows_ev 2 tW [] 2 uW (by decide)
  have d1 : decide (allowsP 2 tW [] tW) = false := by simp [allowsP]
  have d2 : decide (allowsP 2 tW [] ⟨#[]⟩) = false := by simp [allowsP]
  have d3 : decide (allowsP 2 tW [] uW) = true := by
    simp [allowsP]
    exact ⟨ba_ne (by decide), ba_ne (by decide)⟩
  rw [d1] at a1
  rw [d2] at a2
  rw [d3] at a3
  have hs := sub_ev 3 ⟨#[]⟩ [uW] 2 2 tW [] 2 (by decide) (by decide)
  have ds : subP 3 ⟨#[]⟩ [uW] 2 tW [] = true := by
    unfold subP
    rw [Bool.and_eq_true]
    refine ⟨by decide, List.all_eq_true.2 fun s _ => ?_⟩
    by_cases e : s = uW
    · subst e
      rw [d3]
      simp
    · simp [allowsP, e]
  rw [ds] at hs
  unfold rubriclaw14_known.f
  refine Ev.bind (parse_other tW ⟨#[108, 97, 120]⟩ 2 procLax (by decide)) (Ev.bind known_b (Ev.bind hb ?_))
  simp only [show wrap64 (0 + 0) = 0 from w64 (x := 0 + 0) (by decide) (by decide), if_true]
  refine Ev.bind a1 ?_
  simp only [Bool.false_eq_true, if_false]
  refine Ev.bind a2 ?_
  simp only [Bool.false_eq_true, if_false]
  refine Ev.bind a3 ?_
  simp only [if_true, List.length_singleton]
  exact Ev.bind hs (Ev.now _)

end Go.Proofs.Ytfpedicgeepikaa.B
