/-
  DERIVED. GIVEN WITH THE SEED: THE CARDS: each row of YthocjdlcopmhiaaDoorRows.lean that lists a variable, with what it lists TIED to the program's text (the seventh form; the later family's looks); each row that meets fmt, with fmt's text TOLD by the authors' own Lean function (tested against real Go, not proved from fmt's source: count such statements apart). THE CARD IS WHAT COUNTS. Prove the row's statement (the work); the ties are given (YthocjdlcopmhiaaDoorTie.lean); close each card by the builder's one call (the guide's Derived/Test/ToyasCard.lean, 'card_holds'). Laid BY PROGRAM, IN A SANDBOX (cutbox-door.mjs). By AI agents, Wed Nov 11 2026. No macro, syntax, notation, axiom, sorry.
-/
import Derived.Test.YthocjdlcopmhiaaDoorRows
import GoSem.ClaimSeven
namespace Go.Proofs.YthocjdlcopmhiaaDoor
namespace Rows

/-- THE TIED CARD OF 'rubriclaw9.GlushJoins'. -/
def glushJoinsCard : Claim7 := { stood := { row := glushJoinsRow, standIns := [], harness := (true, "33265afb1574f522300e133e4aac569e646b084d8165b5cd2c39f02c8bc15e09"), looks := false }, kinds := [], alts := [], laidByText := true, laidKinds := [.data], laidTests := true, laidLooks := .later }
def GlushJoinsCardSaid : Prop := Claim7.holds Tryd.pinned (.plain (OpenSpec.ofChange glushJoinsSpec)) glushJoinsCard

/-- THE TIED CARD OF 'rubriclaw9.GlushUnits'. -/
def glushUnitsCard : Claim7 := { stood := { row := glushUnitsRow, standIns := [], harness := (true, "33265afb1574f522300e133e4aac569e646b084d8165b5cd2c39f02c8bc15e09"), looks := false }, kinds := [], alts := [], laidByText := true, laidKinds := [.data], laidTests := true, laidLooks := .later }
def GlushUnitsCardSaid : Prop := Claim7.holds Tryd.pinned (.plain (OpenSpec.ofChange glushUnitsSpec)) glushUnitsCard

/-- THE SECOND FORM's CARD OF 'rubriclaw9.GlushJoins'. -/
def glushJoinsUptoCard : Claim7 := { stood := { row := glushJoinsUptoRow, standIns := [], harness := (true, "33265afb1574f522300e133e4aac569e646b084d8165b5cd2c39f02c8bc15e09"), looks := false }, kinds := [], alts := [], laidByText := true, laidKinds := [.data], laidTests := true, laidLooks := .later }
def GlushJoinsUptoCardSaid : Prop := Claim7.holds Tryd.pinned (.plain (OpenSpec.upto glushJoinsSpec)) glushJoinsUptoCard

/-- THE SECOND FORM's CARD OF 'rubriclaw9.GlushUnits'. -/
def glushUnitsUptoCard : Claim7 := { stood := { row := glushUnitsUptoRow, standIns := [], harness := (true, "33265afb1574f522300e133e4aac569e646b084d8165b5cd2c39f02c8bc15e09"), looks := false }, kinds := [], alts := [], laidByText := true, laidKinds := [.data], laidTests := true, laidLooks := .later }
def GlushUnitsUptoCardSaid : Prop := Claim7.holds Tryd.pinned (.plain (OpenSpec.upto glushUnitsSpec)) glushUnitsUptoCard
end Rows
end Go.Proofs.YthocjdlcopmhiaaDoor
