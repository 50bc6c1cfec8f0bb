import Derived.Test.YtfpedicgeepikaaB12
namespace Go.Proofs.Ytfpedicgeepikaa.B
open Go.RowKit Go.Proofs.Ytfpedicgeepikaa Go.Proofs.Ytfpedicgeepikaa.G Go.Proofs.Ytfpedicgeepikaa.Pr Go.Proofs.YtfpedicgeepikaaW.PrintWords Go.Proofs.YtfpedicgeepikaaW.PrintLast
set_option linter.unusedVariables false
set_option linter.unusedSimpArgs false
theorem known_both : bothP 2 tW [] 2 3 ⟨#[]⟩ (setL [tW, uW, ⟨#[]⟩]) = (3, ⟨#[]⟩, [uW], 2, true) := by
  have hin : ∀ s, s ∈ ((specL tW [] ⟨#[]⟩ (setL [tW, uW, ⟨#[]⟩])).filter fun s => decide (allowsP 2 tW [] s) && decide (allowsP 3 ⟨#[]⟩ (setL [tW, uW, ⟨#[]⟩]) s)) ↔ s = uW := by
    intro s
    rw [List.mem_filter, mem_specL, Bool.and_eq_true, decide_eq_true_iff, decide_eq_true_iff]
    simp only [allowsP, mem_setL, List.mem_cons, List.not_mem_nil, or_false, false_or]
    constructor
    · rintro ⟨_, h1, h2⟩
      simp at h1 h2
      rcases h2 with h2 | h2 | h2
      · exact absurd h2 h1.2
      · exact h2
      · exact absurd h2 h1.1
    · rintro rfl
      refine ⟨by simp, ?_, by simp⟩
      simp
      exact ⟨ba_ne (by decide), ba_ne (by decide)⟩
  have hu := (hin uW).2 rfl
  unfold bothP sayP
  rw [if_neg (by decide), setL_const uW _ (fun y hy => (hin y).1 hy) (fun e => by rw [e] at hu; cases hu)]

end Go.Proofs.Ytfpedicgeepikaa.B
