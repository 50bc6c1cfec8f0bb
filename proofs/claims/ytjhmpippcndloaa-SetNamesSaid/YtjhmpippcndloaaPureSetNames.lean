/- SetNames: for any byte, name and letter: a category's and an escape's set are what the second way of reckoning says, and the sets of names and spaces have the letters that the letters' own functions allow. -/
import Derived.Test.YtjhmpippcndloaaB11
namespace Go.Proofs.Ytjhmpippcndloaa.Pure
open Go.RowKit Go.Proofs.Ytjhmpippcndloaa.Pr Go.Proofs.YtjhmpippcndloaaW.PrintWords Go.Proofs.YtjhmpippcndloaaW.PrintLast

theorem SetNames : rubriclaw7_SetNames.Pure := by
  intro a0 a1 a2 h0 _ _
  simp only [Lit.wf, Bool.and_eq_true, decide_eq_true_iff] at h0
  exact (B.names_ev a0 a1 a2 h0.1 (Int.le_trans h0.2 (by decide))).rounds

end Go.Proofs.Ytjhmpippcndloaa.Pure
