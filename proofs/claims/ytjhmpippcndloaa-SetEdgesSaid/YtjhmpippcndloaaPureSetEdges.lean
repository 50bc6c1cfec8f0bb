/- SetEdges: for any two ranges side by side or apart, within the letters or across their end: the set of them has one range or two, as many letters as they have, is right, has the first letter and not the one ahead of it. -/
import Derived.Test.YtjhmpippcndloaaB9
namespace Go.Proofs.Ytjhmpippcndloaa.Pure
open Go.RowKit Go.Proofs.Ytjhmpippcndloaa.Pr Go.Proofs.YtjhmpippcndloaaW.PrintWords Go.Proofs.YtjhmpippcndloaaW.PrintLast

theorem SetEdges : rubriclaw7_SetEdges.Pure := by
  intro a0 a1 a2 a3 _ _ _ _
  exact (B.edges_ev a0 a1 a2 a3).rounds

end Go.Proofs.Ytjhmpippcndloaa.Pure
