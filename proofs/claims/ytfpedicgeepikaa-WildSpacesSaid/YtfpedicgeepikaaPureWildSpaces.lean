/- WildSpaces: for any spaces and any other one, a wildcard's text allows each space that it names and no other one, and its union with all others is as the statement says; the run ends and tells true. Conditions: the slice that comes in is one that Go's memory can hold, its elements are bytes. -/
import Derived.Test.YtfpedicgeepikaaB17
namespace Go.Proofs.Ytfpedicgeepikaa.Pure
open Go.RowKit Go.Proofs.Ytfpedicgeepikaa.Pr Go.Proofs.YtfpedicgeepikaaW.PrintWords Go.Proofs.YtfpedicgeepikaaW.PrintLast

theorem WildSpaces : rubriclaw14_WildSpaces.Pure := by
  intro l0 a1 a2 a3 _ _ hw h3
  have nn : ∀ x : Int, (Lit.int .u8 x).wf = true → 0 ≤ x := fun x h => by
    simp only [Lit.wf, Bool.and_eq_true, decide_eq_true_iff] at h
    exact h.1
  exact (B.spaces_ev l0 a1 a2 a3 (fun x hx => nn x (hw x hx)) (nn a3 h3)).rounds

end Go.Proofs.Ytfpedicgeepikaa.Pure
