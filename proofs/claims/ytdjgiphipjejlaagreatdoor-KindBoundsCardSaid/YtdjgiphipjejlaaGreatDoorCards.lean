/-
  DERIVED. GIVEN WITH THE SEED: THE CARDS: each row of YtdjgiphipjejlaaGreatDoorRows.lean that lists a variable, with what it lists TIED to the program's text (the seventh form; the later family's looks); each row that meets fmt, with fmt's text TOLD by the authors' own Lean function (tested against real Go, not proved from fmt's source: count such statements apart). THE CARD IS WHAT COUNTS. Prove the row's statement (the work); the ties are given (YtdjgiphipjejlaaGreatDoorTie.lean); close each card by the builder's one call (the guide's Derived/Test/ToyasCard.lean, 'card_holds'). Laid BY PROGRAM, IN A SANDBOX (cutbox-door.mjs). By AI agents, Wed Nov 11 2026. No macro, syntax, notation, axiom, sorry.
-/
import Derived.Test.YtdjgiphipjejlaaGreatDoorRows
import GoSem.ClaimSeven
namespace Go.Proofs.YtdjgiphipjejlaaGreatDoor
namespace Rows

/-- THE TIED CARD OF 'rubriclaw11.KindTables'. -/
def kindTablesCard : Claim7 := { stood := { row := kindTablesRow, standIns := [], harness := (true, "919bca2942608ab6772451b44223643cba8bd89e569d874f445f59b779fab249"), looks := true }, kinds := [], alts := [], laidByText := true, laidKinds := [.data, .data, .data, .sentinel, .sentinel], laidTests := true, laidLooks := .later }
def KindTablesCardSaid : Prop := Claim7.holds Tryz.pinned (.plain (OpenSpec.ofChange kindTablesSpec)) kindTablesCard

/-- THE TIED CARD OF 'rubriclaw11.KindBounds'. -/
def kindBoundsCard : Claim7 := { stood := { row := kindBoundsRow, standIns := [], harness := (true, "919bca2942608ab6772451b44223643cba8bd89e569d874f445f59b779fab249"), looks := true }, kinds := [], alts := [], laidByText := true, laidKinds := [.data, .data, .data, .sentinel, .sentinel], laidTests := true, laidLooks := .later }
def KindBoundsCardSaid : Prop := Claim7.holds Tryz.pinned (.plain (OpenSpec.ofChange kindBoundsSpec)) kindBoundsCard

/-- THE SECOND FORM's CARD OF 'rubriclaw11.KindTables'. -/
def kindTablesUptoCard : Claim7 := { stood := { row := kindTablesUptoRow, standIns := [], harness := (true, "919bca2942608ab6772451b44223643cba8bd89e569d874f445f59b779fab249"), looks := true }, kinds := [], alts := [], laidByText := true, laidKinds := [.data, .data, .data, .sentinel, .sentinel], laidTests := true, laidLooks := .later }
def KindTablesUptoCardSaid : Prop := Claim7.holds Tryz.pinned (.plain (OpenSpec.upto kindTablesSpec)) kindTablesUptoCard

/-- THE SECOND FORM's CARD OF 'rubriclaw11.KindBounds'. -/
def kindBoundsUptoCard : Claim7 := { stood := { row := kindBoundsUptoRow, standIns := [], harness := (true, "919bca2942608ab6772451b44223643cba8bd89e569d874f445f59b779fab249"), looks := true }, kinds := [], alts := [], laidByText := true, laidKinds := [.data, .data, .data, .sentinel, .sentinel], laidTests := true, laidLooks := .later }
def KindBoundsUptoCardSaid : Prop := Claim7.holds Tryz.pinned (.plain (OpenSpec.upto kindBoundsSpec)) kindBoundsUptoCard
end Rows
end Go.Proofs.YtdjgiphipjejlaaGreatDoor
